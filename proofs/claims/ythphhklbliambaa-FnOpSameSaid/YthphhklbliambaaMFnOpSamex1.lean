-- Written by a program of this session (wip/tools/myprint.py) over the kit's print: it is not the kit's print.
import Derived.Test.YthphhklbliambaaExtra
import Derived.Lib.Agree
import Derived.Ground.NamesProg
import Derived.Shelf.Lay
import Derived.Shelf.Strings.Repeat
import Derived.Laws.AppendOwn
import Derived.Laws.BytesArg
import Derived.Lib.ConvBytes
import Derived.Test.YthphhklbliambaaMFnOpSamex0
namespace Go.Proofs.Ythphhklbliambaa.MFnOpSame
open Go.RowKit Go.Proofs.YthphhklbliambaaW.PrintWords Go.Proofs.YthphhklbliambaaW.PrintLast Go.Proofs.YthphhklbliambaaW.PrintMore
open List renaming setIfInBounds_toArray → sit, set_cons_zero → scz, set_cons_succ → scs, map_toArray → mta, map_cons → mco, map_nil → mni, length_drop → lnd, length_take → lnt
attribute [local go_sem] max2_int min2_int max_two min_two max_three min_three max_four min_four   -- for this text's walks alone
set_option linter.unusedVariables false
set_option linter.unusedSimpArgs false

/-! ### laws_b10Long: function 33 -/
def laws_b10Long.f (l0 : List Int) (l1 : List Int) : Option (Bool) := if (l0.length : Int) > 1048576 then (some true) else (some (decide ((l1.length : Int) > 1048576)))
set_option maxHeartbeats 8000000 in
set_option maxRecDepth 100000 in
theorem laws_b10Long.calls (A0 : Option Addr) (c0 : Nat) (l0 : List Int) (A1 : Option Addr) (c1 : Nat) (l1 : List Int) (r : Bool) (w : World) (hr0 : Kd.C (Kd.int .u8) w A0 l0.length l0) (hc0 : l0.length ≤ c0) (hr1 : Kd.C (Kd.int .u8) w A1 l1.length l1) (hc1 : l1.length ≤ c1) (h : laws_b10Long.f l0 l1 = some r) :
  Calls Try.prog 33 #[.slice A0 l0.length c0, .slice A1 l1.length c1] w fun e w' => e = .returned (.bool r) ∧ Drawn0 w w' := by
 have HR0 := am hr0
 have HC0 := am hc0
 clear hr0 hc0
 have HR1 := am hr1
 have HC1 := am hc1
 clear hr1 hc1
 have H : (if (l0.length : Int) > 1048576 then (some true) else (some (decide ((l1.length : Int) > 1048576)))) = some r := h
 clear h
 by_cases c3 : (l0.length : Int) > 1048576
 ·rw [if_pos c3] at H
  have c3b0 : decide (1048576 < (l0.length : Int)) = true := decide_eq_true c3
  have c3b1 : decide (1048576 < l0.length) = true := decide_eq_true (by omega)
  clear c3
  obtain rfl := Option.some.inj H
  go_enter Try.func33, Try.ntmps33
  go_wp2
  go_ret
  exact ⟨by first | rfl | (simp; done) | (simp [*]; done), by repeat (first | exact Drawn0.refl _ | apply Drawn0.step)⟩
 ·rw [if_neg c3] at H
  have c3b0 : decide (1048576 < (l0.length : Int)) = false := decide_eq_false c3
  have c3b1 : decide (1048576 < l0.length) = false := decide_eq_false (by omega)
  clear c3
  obtain rfl := Option.some.inj H
  go_enter Try.func33, Try.ntmps33
  go_wp2
  go_ret
  exact ⟨by first | rfl | (simp; done) | (simp [*]; done), by repeat (first | exact Drawn0.refl _ | apply Drawn0.step)⟩

/-! ### impl_between: function 60 -/
def impl_between.f (a0 : Int) (a1 : Int) (a2 : Int) : Option (Bool) := if a0 ≥ a1 then (some (decide (a0 ≤ a2))) else (some false)
set_option maxHeartbeats 8000000 in
set_option maxRecDepth 100000 in
theorem impl_between.calls (a0 : Int) (a1 : Int) (a2 : Int) (r : Bool) (w : World) (h : impl_between.f a0 a1 a2 = some r) :
  Calls Try.prog 60 #[.int .i64 a0, .int .i64 a1, .int .i64 a2] w fun e w' => e = .returned (.bool r) ∧ Drawn0 w w' := by
 have H : (if a0 ≥ a1 then (some (decide (a0 ≤ a2))) else (some false)) = some r := h
 clear h
 by_cases c4 : a0 ≥ a1
 ·rw [if_pos c4] at H
  have c4b0 : decide (a1 ≤ a0) = true := decide_eq_true c4
  clear c4
  obtain rfl := Option.some.inj H
  go_enter Try.func60, Try.ntmps60
  go_wp2
  go_ret
  exact ⟨by first | rfl | (simp; done) | (simp [*]; done), by repeat (first | exact Drawn0.refl _ | apply Drawn0.step)⟩
 ·rw [if_neg c4] at H
  have c4b0 : decide (a1 ≤ a0) = false := decide_eq_false c4
  clear c4
  obtain rfl := Option.some.inj H
  go_enter Try.func60, Try.ntmps60
  go_wp2
  go_ret
  exact ⟨by first | rfl | (simp; done) | (simp [*]; done), by repeat (first | exact Drawn0.refl _ | apply Drawn0.step)⟩

/-! ### impl_CodeOk: function 117 -/
def impl_CodeOk.f (a0_0 : Int) (a0_1 : Int) : Option (Bool) := (impl_between.f a0_0 1 4).bind fun t102 => (if t102 = true then ((impl_between.f a0_1 0 3).bind fun t103 => (some t103)) else (some false))
set_option maxHeartbeats 8000000 in
set_option maxRecDepth 100000 in
theorem impl_CodeOk.calls (a0_0 : Int) (a0_1 : Int) (r : Bool) (w : World) (h : impl_CodeOk.f a0_0 a0_1 = some r) :
  Calls Try.prog 117 #[.agg #[.int .i64 a0_0, .int .i64 a0_1]] w fun e w' => e = .returned (.bool r) ∧ Below w.heap.size w w' := by
 have hu84 := Try.underlying84
 have HB := am (Below.refl w.heap.size w)
 have H : ((impl_between.f a0_0 1 4).bind fun t102 => (if t102 = true then ((impl_between.f a0_1 0 3).bind fun t103 => (some t103)) else (some false))) = some r := h
 clear h
 replace H := Option.bind_eq_some_iff.mp H
 obtain ⟨t102, A20, H⟩ := H
 replace H : (if t102 = true then ((impl_between.f a0_1 0 3).bind fun t103 => (some t103)) else (some false)) = some r := H
 have A2 := am A20
 clear A20
 by_cases c3 : t102 = true
 ·subst c3
  have H1 : ((impl_between.f a0_1 0 3).bind fun t103 => (some t103)) = some r := by rw [if_pos rfl] at H; exact H
  clear H
  have H := H1
  clear H1
  replace H := Option.bind_eq_some_iff.mp H
  obtain ⟨t103, A40, H⟩ := H
  replace H : (some t103) = some r := H
  have A4 := am A40
  clear A40
  obtain rfl := Option.some.inj H
  go_enter Try.func117, Try.ntmps117
  go_wp2_with (first | ((with_reducible refine gate_dst (N := 1) rfl ?_); refine box_event ?hg (N := 1) ?hd (cs := #[.int .i64 a0_0, .int .i64 a0_1]) (t := 84) ?hr ?_; (case hd => rfl); (case hg => rfl); (case hr => first | (go_simp; done) | (go_simp; rfl)); intro gb101 hg w5 hbox hb; have n0_ := am (below_step (by repeat (first | (with_reducible first | exact HB.out | apply bal | apply pdn | apply bd1) | exact HB.out)) hb); have n1_ := am (hbox); have n2_ := am ((by rw [hg]; exact (below_size (by repeat (first | (with_reducible first | exact HB.out | apply bal | apply pdn | apply bd1) | exact HB.out))) : w.heap.size ≤ gb101)); have n3_ := am ((by rw [hg]; exact (below_size (by repeat (first | (with_reducible first | exact HB.out | apply bal | apply pdn | apply bd1) | exact HB.out))) : w.heap.size ≤ gb101)); clear HB; have HB := n0_; have BK101 := n1_; have GW101 := n2_; have GE101 := n3_; clear n0_ n1_ n2_ n3_; clear hb hbox hg; have hcz6_0 : w5.cell? ⟨gb101, 0, none⟩ = some (.int .i64 a0_0) := (kce BK101.out 0).trans rfl; have hcz6_1 : w5.cell? ⟨gb101, 1, none⟩ = some (.int .i64 a0_1) := (kce BK101.out 1).trans rfl; have hfz6_0 := kfr BK101.out 0; have hfz6_1 := kfr BK101.out 1) | ((with_reducible refine gate_callee (f := 60) rfl ?_); refine goesL_ (some 5) rfl rfl Try.func60 (by kernel_rfl) rfl #[.int .i64 a0_0, .int .i64 1, .int .i64 4] rfl (by (try simp only [mta, mco, mni]); first | done | rfl | (simp only [lnd, lnt]; rfl)) ?_; (with_reducible refine (impl_between.calls a0_0 1 4 true _ A2.out).mono ?_); rintro e w' ⟨rfl, ⟨nd, rfl⟩⟩; refine ⟨_, rfl, ?_⟩) | (go_at_call 60; (with_reducible refine (impl_between.calls a0_1 0 3 t103 _ A4.out).mono ?_); rintro e w' ⟨rfl, ⟨nd, rfl⟩⟩))
  go_ret
  exact ⟨by first | rfl | (simp [errW_none, errW_some] <;> rfl) | (simp [*, errW_none, errW_some] <;> rfl), by repeat (first | (with_reducible first | exact HB.out | apply bal | apply pdn | apply bd1 | refine bst ?_ GE101.out) | exact HB.out)⟩
 ·replace c3 := Bool.eq_false_iff.mpr c3
  subst c3
  have H1 : (some false) = some r := by rw [if_neg (show ¬ (false = true) by decide)] at H; exact H
  clear H
  have H := H1
  clear H1
  obtain rfl := Option.some.inj H
  go_enter Try.func117, Try.ntmps117
  go_wp2_with (first | ((with_reducible refine gate_dst (N := 1) rfl ?_); refine box_event ?hg (N := 1) ?hd (cs := #[.int .i64 a0_0, .int .i64 a0_1]) (t := 84) ?hr ?_; (case hd => rfl); (case hg => rfl); (case hr => first | (go_simp; done) | (go_simp; rfl)); intro gb101 hg w7 hbox hb; have n0_ := am (below_step (by repeat (first | (with_reducible first | exact HB.out | apply bal | apply pdn | apply bd1) | exact HB.out)) hb); have n1_ := am (hbox); have n2_ := am ((by rw [hg]; exact (below_size (by repeat (first | (with_reducible first | exact HB.out | apply bal | apply pdn | apply bd1) | exact HB.out))) : w.heap.size ≤ gb101)); have n3_ := am ((by rw [hg]; exact (below_size (by repeat (first | (with_reducible first | exact HB.out | apply bal | apply pdn | apply bd1) | exact HB.out))) : w.heap.size ≤ gb101)); clear HB; have HB := n0_; have BK101 := n1_; have GW101 := n2_; have GE101 := n3_; clear n0_ n1_ n2_ n3_; clear hb hbox hg; have hcz8_0 : w7.cell? ⟨gb101, 0, none⟩ = some (.int .i64 a0_0) := (kce BK101.out 0).trans rfl; have hcz8_1 : w7.cell? ⟨gb101, 1, none⟩ = some (.int .i64 a0_1) := (kce BK101.out 1).trans rfl; have hfz8_0 := kfr BK101.out 0; have hfz8_1 := kfr BK101.out 1) | ((with_reducible refine gate_callee (f := 60) rfl ?_); refine goesL_ (some 5) rfl rfl Try.func60 (by kernel_rfl) rfl #[.int .i64 a0_0, .int .i64 1, .int .i64 4] rfl (by (try simp only [mta, mco, mni]); first | done | rfl | (simp only [lnd, lnt]; rfl)) ?_; (with_reducible refine (impl_between.calls a0_0 1 4 false _ A2.out).mono ?_); rintro e w' ⟨rfl, ⟨nd, rfl⟩⟩; refine ⟨_, rfl, ?_⟩))
  go_ret
  exact ⟨by first | rfl | (simp [errW_none, errW_some] <;> rfl) | (simp [*, errW_none, errW_some] <;> rfl), by repeat (first | (with_reducible first | exact HB.out | apply bal | apply pdn | apply bd1 | refine bst ?_ GE101.out) | exact HB.out)⟩

/-! ### impl_OpOk: function 86 -/
def impl_OpOk.j0 : Nat → Int → Bool → Int → Int → Int → Int → ByteArray → Option (Bool)
 | 0, _, _, _, _, _, _, _ => none
 | k + 1, x9, x10, x105000, x105001, x106000, x106001, x106002 => if x10 = true then (if x106001 = 0 then (some (x106002.toList == ([] : List UInt8))) else (some false)) else (if x9 = 2 then (if x106001 = 0 then (some (decide ((x106002.size : Int) ≤ 64))) else (some false)) else (if x9 = 3 then (if x105000 = 1 then ((impl_between.f x106001 0 64).bind fun t107 => (if t107 = true then (some (decide ((x106002.size : Int) ≤ 64))) else (some false))) else (some false)) else (if x9 = 4 then (if x105000 = 1 then (if x106001 = 0 then (some (decide ((x106002.size : Int) ≤ 64))) else (some false)) else (some false)) else (if x9 = 5 then (if x105000 = 1 then ((impl_between.f x106001 0 64).bind fun t108 => (if t108 = true then (some (x106002.toList == ([] : List UInt8))) else (some false))) else (some false)) else (some false)))))
def impl_OpOk.f (k : Nat) (a0_0 : Int) (a0_1 : Int) (a1_0 : Int) (a1_1 : Int) (a1_2 : ByteArray) : Option (Bool) := (impl_CodeOk.f a0_0 a0_1).bind fun t106 => (if t106 = true then (if a1_0 = 1 then (impl_OpOk.j0 k a1_0 (a1_0 == 1) a0_0 a0_1 a1_0 a1_1 a1_2) else (impl_OpOk.j0 k a1_0 (a1_0 == 6) a0_0 a0_1 a1_0 a1_1 a1_2)) else (some false))
theorem impl_OpOk.mono_l : ∀ k, (∀ y0 y1 y2 y3 y4 y5 y6, LeO (impl_OpOk.j0 k y0 y1 y2 y3 y4 y5 y6) (impl_OpOk.j0 (k + 1) y0 y1 y2 y3 y4 y5 y6))
 | 0 => fun _ _ _ _ _ _ _ r h => by simp [impl_OpOk.j0] at h
 | k + 1 => by
  have ih0 := impl_OpOk.mono_l k
  ·intro y0 y1 y2 y3 y4 y5 y6
   unfold impl_OpOk.j0
   repeat' first
   | (with_reducible exact ih0 _ _ _ _ _ _ _)
   | (with_reducible exact LeO.refl _)
   | (with_reducible exact LeO.none _)
   | (with_reducible refine LeO.ite ?_ ?_)
   | (with_reducible refine LeO.bind ?_ (fun _ => ?_))
   | exact ih0 _ _ _ _ _ _ _
   | exact LeO.none _
   | refine LeO.ite ?_ ?_
   | refine LeO.bind ?_ (fun _ => ?_)
theorem impl_OpOk.mono : ∀ a0 a1 a2 a3 a4 k, LeO (impl_OpOk.f k a0 a1 a2 a3 a4) (impl_OpOk.f (k + 1) a0 a1 a2 a3 a4) := by
 intro a0 a1 a2 a3 a4 k
 have ih0 := impl_OpOk.mono_l k
 unfold impl_OpOk.f
 repeat' first
   | (with_reducible exact ih0 _ _ _ _ _ _ _)
   | (with_reducible exact LeO.refl _)
   | (with_reducible exact LeO.none _)
   | (with_reducible refine LeO.ite ?_ ?_)
   | (with_reducible refine LeO.bind ?_ (fun _ => ?_))
   | exact ih0 _ _ _ _ _ _ _
   | exact LeO.none _
   | refine LeO.ite ?_ ?_
   | refine LeO.bind ?_ (fun _ => ?_)
set_option maxHeartbeats 8000000 in
set_option maxRecDepth 100000 in
theorem impl_OpOk.calls (k : Nat) (a0_0 : Int) (a0_1 : Int) (a1_0 : Int) (a1_1 : Int) (a1_2 : ByteArray) (r : Bool) (w : World) (h : impl_OpOk.f k a0_0 a0_1 a1_0 a1_1 a1_2 = some r) :
  Calls Try.prog 86 #[.agg #[.int .i64 a0_0, .int .i64 a0_1], .agg #[.int .i64 a1_0, .int .i64 a1_1, .string a1_2]] w fun e w' => e = .returned (.bool r) ∧ Below w.heap.size w w' := by
 have hu84 := Try.underlying84
 have hu60 := Try.underlying60
 have HB := am (Below.refl w.heap.size w)
 have H : ((impl_CodeOk.f a0_0 a0_1).bind fun t106 => (if t106 = true then (if a1_0 = 1 then (impl_OpOk.j0 k a1_0 (a1_0 == 1) a0_0 a0_1 a1_0 a1_1 a1_2) else (impl_OpOk.j0 k a1_0 (a1_0 == 6) a0_0 a0_1 a1_0 a1_1 a1_2)) else (some false))) = some r := h
 clear h
 replace H := Option.bind_eq_some_iff.mp H
 obtain ⟨t106, A30, H⟩ := H
 replace H : (if t106 = true then (if a1_0 = 1 then (impl_OpOk.j0 k a1_0 (a1_0 == 1) a0_0 a0_1 a1_0 a1_1 a1_2) else (impl_OpOk.j0 k a1_0 (a1_0 == 6) a0_0 a0_1 a1_0 a1_1 a1_2)) else (some false)) = some r := H
 have A3 := am A30
 clear A30
 by_cases c4 : t106 = true
 ·subst c4
  have H1 : (if a1_0 = 1 then (impl_OpOk.j0 k a1_0 (a1_0 == 1) a0_0 a0_1 a1_0 a1_1 a1_2) else (impl_OpOk.j0 k a1_0 (a1_0 == 6) a0_0 a0_1 a1_0 a1_1 a1_2)) = some r := by rw [if_pos rfl] at H; exact H
  clear H
  have H := H1
  clear H1
  have HC5 := am H
  clear H
  go_enter Try.func86, Try.ntmps86
  go_upto_if 10 with (first | ((with_reducible refine gate_dst (N := 2) rfl ?_); (try (refine gate_guard (by rfl) ?_; dsimp only)); refine box_event ?hg (N := 2) ?hd (cs := #[.int .i64 a0_0, .int .i64 a0_1]) (t := 84) ?hr ?_; (case hd => rfl); (case hg => rfl); (case hr => first | (go_simp; done) | (go_simp; rfl)); intro gb104 hg w6 hbox hb; have n0_ := am (below_step (by repeat (first | (with_reducible first | exact HB.out | apply bal | apply pdn | apply bd1) | exact HB.out)) hb); have n1_ := am (hbox); have n2_ := am ((by rw [hg]; exact (below_size (by repeat (first | (with_reducible first | exact HB.out | apply bal | apply pdn | apply bd1) | exact HB.out))) : w.heap.size ≤ gb104)); have n3_ := am ((by rw [hg]; exact (below_size (by repeat (first | (with_reducible first | exact HB.out | apply bal | apply pdn | apply bd1) | exact HB.out))) : w.heap.size ≤ gb104)); clear HB; have HB := n0_; have BK104 := n1_; have GW104 := n2_; have GE104 := n3_; clear n0_ n1_ n2_ n3_; clear hb hbox hg) | ((with_reducible refine gate_dst (N := 3) rfl ?_); (try (refine gate_guard (by rfl) ?_; dsimp only)); refine box_event ?hg (N := 3) ?hd (cs := #[.int .i64 a1_0, .int .i64 a1_1, .string a1_2]) (t := 60) ?hr ?_; (case hd => rfl); (case hg => rfl); (case hr => first | (go_simp; done) | (go_simp; rfl)); intro gb105 hg w7 hbox hb; have n0_ := am (kbb (g := gb104) (o := .cells #[.int .i64 a0_0, .int .i64 a0_1] 84 (0, 0)) (by (with_reducible repeat (first | apply kdn | apply kdr | apply kal)); exact BK104.out) hb); have n1_ := am (below_step (by repeat (first | (with_reducible first | exact HB.out | apply bal | apply pdn | apply bd1 | refine bst ?_ GE104.out) | exact HB.out)) hb); have n2_ := am (hbox); have n3_ := am ((by rw [hg]; exact (below_size (by repeat (first | (with_reducible first | exact HB.out | apply bal | apply pdn | apply bd1 | refine bst ?_ GE104.out) | exact HB.out))) : w.heap.size ≤ gb105)); have n4_ := am ((by rw [hg]; exact (below_size (by repeat (first | (with_reducible first | exact HB.out | apply bal | apply pdn | apply bd1 | refine bst ?_ GE104.out) | exact HB.out))) : w.heap.size ≤ gb105)); have n5_ := am ((by rw [hg]; exact Nat.ne_of_lt (blk_lt (g := gb104) (o := .cells #[.int .i64 a0_0, .int .i64 a0_1] 84 (0, 0)) (by (with_reducible repeat (first | apply kdn | apply kdr | apply kal)); exact BK104.out)) : gb104 ≠ gb105)); have n6_ := am ((by rw [hg]; exact Nat.ne_of_gt (blk_lt (g := gb104) (o := .cells #[.int .i64 a0_0, .int .i64 a0_1] 84 (0, 0)) (by (with_reducible repeat (first | apply kdn | apply kdr | apply kal)); exact BK104.out)) : gb105 ≠ gb104)); clear BK104; clear HB; have BK104 := n0_; have HB := n1_; have BK105 := n2_; have GW105 := n3_; have GE105 := n4_; have NB104_105 := n5_; have NB105_104 := n6_; clear n0_ n1_ n2_ n3_ n4_ n5_ n6_; clear hb hbox hg; have hnb8 := NB104_105.out; have hnc8 := NB105_104.out; have hcz9_0 : w7.cell? ⟨gb104, 0, none⟩ = some (.int .i64 a0_0) := (kce BK104.out 0).trans rfl; have hcz9_1 : w7.cell? ⟨gb104, 1, none⟩ = some (.int .i64 a0_1) := (kce BK104.out 1).trans rfl; have hfz9_0 := kfr BK104.out 0; have hfz9_1 := kfr BK104.out 1) | ((with_reducible refine gate_callee (f := 117) rfl ?_); refine goesL_ (some 6) rfl rfl Try.func117 (by kernel_rfl) rfl #[.agg #[.int .i64 a0_0, .int .i64 a0_1]] rfl (by (try simp only [mta, mco, mni]); first | done | rfl | (simp only [lnd, lnt]; rfl)) ?_; (with_reducible refine (impl_CodeOk.calls a0_0 a0_1 true _ A3.out).mono ?_); rintro e w10 ⟨rfl, hb⟩; refine ⟨_, rfl, ?_⟩; have n0_ := am (kbb (g := gb104) (o := .cells #[.int .i64 a0_0, .int .i64 a0_1] 84 (0, 0)) (by (with_reducible repeat (first | apply kdn | apply kdr | apply kal)); exact BK104.out) hb); have n1_ := am (kbb (g := gb105) (o := .cells #[.int .i64 a1_0, .int .i64 a1_1, .string a1_2] 60 (0, 0)) (by (with_reducible repeat (first | apply kdn | apply kdr | apply kal)); exact BK105.out) hb); have n2_ := am (below_step (by repeat (first | (with_reducible first | exact HB.out | apply bal | apply pdn | apply bd1 | refine bst ?_ GE104.out | refine bst ?_ GE105.out) | exact HB.out)) hb); clear BK104; clear BK105; clear HB; have BK104 := n0_; have BK105 := n1_; have HB := n2_; clear n0_ n1_ n2_; (try clear hb); (try clear hb2); (try clear hk); (try clear hi); have hcz11_0 : w10.cell? ⟨gb105, 0, none⟩ = some (.int .i64 a1_0) := (kce BK105.out 0).trans rfl; have hcz11_1 : w10.cell? ⟨gb105, 1, none⟩ = some (.int .i64 a1_1) := (kce BK105.out 1).trans rfl; have hcz11_2 : w10.cell? ⟨gb105, 2, none⟩ = some (.string a1_2) := (kce BK105.out 2).trans rfl; have hfz11_0 := kfr BK105.out 0; have hfz11_1 := kfr BK105.out 1; have hfz11_2 := kfr BK105.out 2))
  (try simp only [Act.put, sit, scz, scs])
  go_cut [10] (fun v10 wc => ∃ (kq : Nat) (x10_4 : Bool), v10 = .bool x10_4 ∧ Aside0 (impl_OpOk.j0 kq a1_0 x10_4 a0_0 a0_1 a1_0 a1_1 a1_2 = some r) ∧ Aside0 (kq ≤ k) ∧ Aside0 (wc.heap[gb104]? = some (.cells #[.int .i64 a0_0, .int .i64 a0_1] 84 (0, 0))) ∧ Aside0 (wc.heap[gb105]? = some (.cells #[.int .i64 a1_0, .int .i64 a1_1, .string a1_2] 60 (0, 0))) ∧ Aside0 (Below w.heap.size w wc))
  case first =>
   have H := HC5.out
   clear HC5
   by_cases c12 : a1_0 = 1
   ·rw [if_pos c12] at H
    have c12b0 : (a1_0 == 1) = true := beq_iff_eq.mpr c12
    have c12b1 : (a1_0 != 1) = false := bne_eq_false_iff_eq.mpr c12
    clear c12
    (first | rw [c12b0] | (simp only [i64_w, i32_w]; rw [c12b0]) | skip)
    have H' := am H
    clear H
    go_wp2
    go_meet
    case rel => exact ⟨_, ((a1_0 == 1)), (by first | rfl | (simp; done) | (simp [*]; done)), H', ⟨by first | omega | exact Nat.le_refl _⟩, ⟨by (with_reducible repeat (first | apply kdn | apply kdr | apply kal)); exact BK104.out⟩, ⟨by (with_reducible repeat (first | apply kdn | apply kdr | apply kal)); exact BK105.out⟩, ⟨by repeat (first | (with_reducible first | exact HB.out | apply bal | apply pdn | apply bd1 | refine bst ?_ GE104.out | refine bst ?_ GE105.out) | exact HB.out)⟩⟩
   ·rw [if_neg c12] at H
    have c12b0 : (a1_0 == 1) = false := beq_eq_false_iff_ne.mpr c12
    have c12b1 : (a1_0 != 1) = true := bne_iff_ne.mpr c12
    (first | rw [c12b0] | (simp only [i64_w, i32_w]; rw [c12b0]) | skip)
    have H' := am H
    clear H
    go_wp2
    go_meet
    case rel => exact ⟨_, ((a1_0 == 6)), (by first | rfl | (simp; done) | (simp [*]; done)), H', ⟨by first | omega | exact Nat.le_refl _⟩, ⟨by (with_reducible repeat (first | apply kdn | apply kdr | apply kal)); exact BK104.out⟩, ⟨by (with_reducible repeat (first | apply kdn | apply kdr | apply kal)); exact BK105.out⟩, ⟨by repeat (first | (with_reducible first | exact HB.out | apply bal | apply pdn | apply bd1 | refine bst ?_ GE104.out | refine bst ?_ GE105.out) | exact HB.out)⟩⟩
  case rest =>
   clear HC5
   obtain ⟨kq, x10_4, rfl, HA, HJ4, BK104, BK105, HB⟩ := hcut
   cases kq with
   | zero => exact absurd HA.out (by simp [impl_OpOk.j0])
   | succ kj4 =>
    have H := HA.out
    clear HA
    simp only [impl_OpOk.j0] at H
    by_cases c13 : x10_4 = true
    ·subst c13
     have H1 : (if a1_1 = 0 then (some (a1_2.toList == ([] : List UInt8))) else (some false)) = some r := by rw [if_pos rfl] at H; exact H
     clear H
     have H := H1
     clear H1
     by_cases c14 : a1_1 = 0
     ·rw [if_pos c14] at H
      have c14b0 : (a1_1 == 0) = true := beq_iff_eq.mpr c14
      have c14b1 : (a1_1 != 0) = false := bne_eq_false_iff_eq.mpr c14
      clear c14
      obtain rfl := Option.some.inj H
      have hnb15 := NB105_104.out
      have hnc15 := NB104_105.out
      have hcz16_0 : wc.cell? ⟨gb105, 0, none⟩ = some (.int .i64 a1_0) := (kce BK105.out 0).trans rfl
      have hcz16_1 : wc.cell? ⟨gb105, 1, none⟩ = some (.int .i64 a1_1) := (kce BK105.out 1).trans rfl
      have hcz16_2 : wc.cell? ⟨gb105, 2, none⟩ = some (.string a1_2) := (kce BK105.out 2).trans rfl
      have hfz16_0 := kfr BK105.out 0
      have hfz16_1 := kfr BK105.out 1
      have hfz16_2 := kfr BK105.out 2
      go_wp2
      go_ret
      exact ⟨by first | rfl | (simp [errW_none, errW_some] <;> rfl) | (simp [*, errW_none, errW_some] <;> rfl), by repeat (first | (with_reducible first | exact HB.out | apply bal | apply pdn | apply bd1 | refine bst ?_ GE104.out | refine bst ?_ GE105.out) | exact HB.out)⟩
     ·rw [if_neg c14] at H
      have c14b0 : (a1_1 == 0) = false := beq_eq_false_iff_ne.mpr c14
      have c14b1 : (a1_1 != 0) = true := bne_iff_ne.mpr c14
      obtain rfl := Option.some.inj H
      have hnb17 := NB105_104.out
      have hnc17 := NB104_105.out
      have hcz18_0 : wc.cell? ⟨gb105, 0, none⟩ = some (.int .i64 a1_0) := (kce BK105.out 0).trans rfl
      have hcz18_1 : wc.cell? ⟨gb105, 1, none⟩ = some (.int .i64 a1_1) := (kce BK105.out 1).trans rfl
      have hcz18_2 : wc.cell? ⟨gb105, 2, none⟩ = some (.string a1_2) := (kce BK105.out 2).trans rfl
      have hfz18_0 := kfr BK105.out 0
      have hfz18_1 := kfr BK105.out 1
      have hfz18_2 := kfr BK105.out 2
      go_wp2
      go_ret
      exact ⟨by first | rfl | (simp [errW_none, errW_some] <;> rfl) | (simp [*, errW_none, errW_some] <;> rfl), by repeat (first | (with_reducible first | exact HB.out | apply bal | apply pdn | apply bd1 | refine bst ?_ GE104.out | refine bst ?_ GE105.out) | exact HB.out)⟩
    ·replace c13 := Bool.eq_false_iff.mpr c13
     subst c13
     have H1 : (if a1_0 = 2 then (if a1_1 = 0 then (some (decide ((a1_2.size : Int) ≤ 64))) else (some false)) else (if a1_0 = 3 then (if a0_0 = 1 then ((impl_between.f a1_1 0 64).bind fun t107 => (if t107 = true then (some (decide ((a1_2.size : Int) ≤ 64))) else (some false))) else (some false)) else (if a1_0 = 4 then (if a0_0 = 1 then (if a1_1 = 0 then (some (decide ((a1_2.size : Int) ≤ 64))) else (some false)) else (some false)) else (if a1_0 = 5 then (if a0_0 = 1 then ((impl_between.f a1_1 0 64).bind fun t108 => (if t108 = true then (some (a1_2.toList == ([] : List UInt8))) else (some false))) else (some false)) else (some false))))) = some r := by rw [if_neg (show ¬ (false = true) by decide)] at H; exact H
     clear H
     have H := H1
     clear H1
     by_cases c19 : a1_0 = 2
     ·rw [if_pos c19] at H
      have c19b0 : (a1_0 == 2) = true := beq_iff_eq.mpr c19
      have c19b1 : (a1_0 != 2) = false := bne_eq_false_iff_eq.mpr c19
      clear c19
      by_cases c20 : a1_1 = 0
      ·rw [if_pos c20] at H
       have c20b0 : (a1_1 == 0) = true := beq_iff_eq.mpr c20
       have c20b1 : (a1_1 != 0) = false := bne_eq_false_iff_eq.mpr c20
       clear c20
       obtain rfl := Option.some.inj H
       have hnb21 := NB105_104.out
       have hnc21 := NB104_105.out
       have hcz22_0 : wc.cell? ⟨gb105, 0, none⟩ = some (.int .i64 a1_0) := (kce BK105.out 0).trans rfl
       have hcz22_1 : wc.cell? ⟨gb105, 1, none⟩ = some (.int .i64 a1_1) := (kce BK105.out 1).trans rfl
       have hcz22_2 : wc.cell? ⟨gb105, 2, none⟩ = some (.string a1_2) := (kce BK105.out 2).trans rfl
       have hfz22_0 := kfr BK105.out 0
       have hfz22_1 := kfr BK105.out 1
       have hfz22_2 := kfr BK105.out 2
       go_wp2
       go_ret
       exact ⟨by first | rfl | (simp [errW_none, errW_some] <;> rfl) | (simp [*, errW_none, errW_some] <;> rfl), by repeat (first | (with_reducible first | exact HB.out | apply bal | apply pdn | apply bd1 | refine bst ?_ GE104.out | refine bst ?_ GE105.out) | exact HB.out)⟩
      ·rw [if_neg c20] at H
       have c20b0 : (a1_1 == 0) = false := beq_eq_false_iff_ne.mpr c20
       have c20b1 : (a1_1 != 0) = true := bne_iff_ne.mpr c20
       obtain rfl := Option.some.inj H
       have hnb23 := NB105_104.out
       have hnc23 := NB104_105.out
       have hcz24_0 : wc.cell? ⟨gb105, 0, none⟩ = some (.int .i64 a1_0) := (kce BK105.out 0).trans rfl
       have hcz24_1 : wc.cell? ⟨gb105, 1, none⟩ = some (.int .i64 a1_1) := (kce BK105.out 1).trans rfl
       have hcz24_2 : wc.cell? ⟨gb105, 2, none⟩ = some (.string a1_2) := (kce BK105.out 2).trans rfl
       have hfz24_0 := kfr BK105.out 0
       have hfz24_1 := kfr BK105.out 1
       have hfz24_2 := kfr BK105.out 2
       go_wp2
       go_ret
       exact ⟨by first | rfl | (simp [errW_none, errW_some] <;> rfl) | (simp [*, errW_none, errW_some] <;> rfl), by repeat (first | (with_reducible first | exact HB.out | apply bal | apply pdn | apply bd1 | refine bst ?_ GE104.out | refine bst ?_ GE105.out) | exact HB.out)⟩
     ·rw [if_neg c19] at H
      have c19b0 : (a1_0 == 2) = false := beq_eq_false_iff_ne.mpr c19
      have c19b1 : (a1_0 != 2) = true := bne_iff_ne.mpr c19
      by_cases c25 : a1_0 = 3
      ·rw [if_pos c25] at H
       have c25b0 : (a1_0 == 3) = true := beq_iff_eq.mpr c25
       have c25b1 : (a1_0 != 3) = false := bne_eq_false_iff_eq.mpr c25
       clear c25
       by_cases c26 : a0_0 = 1
       ·rw [if_pos c26] at H
        have c26b0 : (a0_0 == 1) = true := beq_iff_eq.mpr c26
        have c26b1 : (a0_0 != 1) = false := bne_eq_false_iff_eq.mpr c26
        clear c26
        replace H := Option.bind_eq_some_iff.mp H
        obtain ⟨t107, A270, H⟩ := H
        replace H : (if t107 = true then (some (decide ((a1_2.size : Int) ≤ 64))) else (some false)) = some r := H
        have A27 := am A270
        clear A270
        by_cases c28 : t107 = true
        ·subst c28
         have H1 : (some (decide ((a1_2.size : Int) ≤ 64))) = some r := by rw [if_pos rfl] at H; exact H
         clear H
         have H := H1
         clear H1
         obtain rfl := Option.some.inj H
         have hnb29 := NB104_105.out
         have hnc29 := NB105_104.out
         have hcz30_0 : wc.cell? ⟨gb104, 0, none⟩ = some (.int .i64 a0_0) := (kce BK104.out 0).trans rfl
         have hcz30_1 : wc.cell? ⟨gb104, 1, none⟩ = some (.int .i64 a0_1) := (kce BK104.out 1).trans rfl
         have hfz30_0 := kfr BK104.out 0
         have hfz30_1 := kfr BK104.out 1
         have hcz31_0 : wc.cell? ⟨gb105, 0, none⟩ = some (.int .i64 a1_0) := (kce BK105.out 0).trans rfl
         have hcz31_1 : wc.cell? ⟨gb105, 1, none⟩ = some (.int .i64 a1_1) := (kce BK105.out 1).trans rfl
         have hcz31_2 : wc.cell? ⟨gb105, 2, none⟩ = some (.string a1_2) := (kce BK105.out 2).trans rfl
         have hfz31_0 := kfr BK105.out 0
         have hfz31_1 := kfr BK105.out 1
         have hfz31_2 := kfr BK105.out 2
         go_wp2_with (first | (go_at_call 60; (with_reducible refine (impl_between.calls a1_1 0 64 true _ A27.out).mono ?_); rintro e w' ⟨rfl, ⟨nd, rfl⟩⟩))
         go_ret
         exact ⟨by first | rfl | (simp [errW_none, errW_some] <;> rfl) | (simp [*, errW_none, errW_some] <;> rfl), by repeat (first | (with_reducible first | exact HB.out | apply bal | apply pdn | apply bd1 | refine bst ?_ GE104.out | refine bst ?_ GE105.out) | exact HB.out)⟩
        ·replace c28 := Bool.eq_false_iff.mpr c28
         subst c28
         have H1 : (some false) = some r := by rw [if_neg (show ¬ (false = true) by decide)] at H; exact H
         clear H
         have H := H1
         clear H1
         obtain rfl := Option.some.inj H
         have hnb32 := NB104_105.out
         have hnc32 := NB105_104.out
         have hcz33_0 : wc.cell? ⟨gb104, 0, none⟩ = some (.int .i64 a0_0) := (kce BK104.out 0).trans rfl
         have hcz33_1 : wc.cell? ⟨gb104, 1, none⟩ = some (.int .i64 a0_1) := (kce BK104.out 1).trans rfl
         have hfz33_0 := kfr BK104.out 0
         have hfz33_1 := kfr BK104.out 1
         have hcz34_0 : wc.cell? ⟨gb105, 0, none⟩ = some (.int .i64 a1_0) := (kce BK105.out 0).trans rfl
         have hcz34_1 : wc.cell? ⟨gb105, 1, none⟩ = some (.int .i64 a1_1) := (kce BK105.out 1).trans rfl
         have hcz34_2 : wc.cell? ⟨gb105, 2, none⟩ = some (.string a1_2) := (kce BK105.out 2).trans rfl
         have hfz34_0 := kfr BK105.out 0
         have hfz34_1 := kfr BK105.out 1
         have hfz34_2 := kfr BK105.out 2
         go_wp2_with (first | (go_at_call 60; (with_reducible refine (impl_between.calls a1_1 0 64 false _ A27.out).mono ?_); rintro e w' ⟨rfl, ⟨nd, rfl⟩⟩))
         go_ret
         exact ⟨by first | rfl | (simp [errW_none, errW_some] <;> rfl) | (simp [*, errW_none, errW_some] <;> rfl), by repeat (first | (with_reducible first | exact HB.out | apply bal | apply pdn | apply bd1 | refine bst ?_ GE104.out | refine bst ?_ GE105.out) | exact HB.out)⟩
       ·rw [if_neg c26] at H
        have c26b0 : (a0_0 == 1) = false := beq_eq_false_iff_ne.mpr c26
        have c26b1 : (a0_0 != 1) = true := bne_iff_ne.mpr c26
        obtain rfl := Option.some.inj H
        have hnb35 := NB104_105.out
        have hnc35 := NB105_104.out
        have hcz36_0 : wc.cell? ⟨gb104, 0, none⟩ = some (.int .i64 a0_0) := (kce BK104.out 0).trans rfl
        have hcz36_1 : wc.cell? ⟨gb104, 1, none⟩ = some (.int .i64 a0_1) := (kce BK104.out 1).trans rfl
        have hfz36_0 := kfr BK104.out 0
        have hfz36_1 := kfr BK104.out 1
        go_wp2
        go_ret
        exact ⟨by first | rfl | (simp [errW_none, errW_some] <;> rfl) | (simp [*, errW_none, errW_some] <;> rfl), by repeat (first | (with_reducible first | exact HB.out | apply bal | apply pdn | apply bd1 | refine bst ?_ GE104.out | refine bst ?_ GE105.out) | exact HB.out)⟩
      ·rw [if_neg c25] at H
       have c25b0 : (a1_0 == 3) = false := beq_eq_false_iff_ne.mpr c25
       have c25b1 : (a1_0 != 3) = true := bne_iff_ne.mpr c25
       by_cases c37 : a1_0 = 4
       ·rw [if_pos c37] at H
        have c37b0 : (a1_0 == 4) = true := beq_iff_eq.mpr c37
        have c37b1 : (a1_0 != 4) = false := bne_eq_false_iff_eq.mpr c37
        clear c37
        by_cases c38 : a0_0 = 1
        ·rw [if_pos c38] at H
         have c38b0 : (a0_0 == 1) = true := beq_iff_eq.mpr c38
         have c38b1 : (a0_0 != 1) = false := bne_eq_false_iff_eq.mpr c38
         clear c38
         by_cases c39 : a1_1 = 0
         ·rw [if_pos c39] at H
          have c39b0 : (a1_1 == 0) = true := beq_iff_eq.mpr c39
          have c39b1 : (a1_1 != 0) = false := bne_eq_false_iff_eq.mpr c39
          clear c39
          obtain rfl := Option.some.inj H
          have hnb40 := NB104_105.out
          have hnc40 := NB105_104.out
          have hcz41_0 : wc.cell? ⟨gb104, 0, none⟩ = some (.int .i64 a0_0) := (kce BK104.out 0).trans rfl
          have hcz41_1 : wc.cell? ⟨gb104, 1, none⟩ = some (.int .i64 a0_1) := (kce BK104.out 1).trans rfl
          have hfz41_0 := kfr BK104.out 0
          have hfz41_1 := kfr BK104.out 1
          have hcz42_0 : wc.cell? ⟨gb105, 0, none⟩ = some (.int .i64 a1_0) := (kce BK105.out 0).trans rfl
          have hcz42_1 : wc.cell? ⟨gb105, 1, none⟩ = some (.int .i64 a1_1) := (kce BK105.out 1).trans rfl
          have hcz42_2 : wc.cell? ⟨gb105, 2, none⟩ = some (.string a1_2) := (kce BK105.out 2).trans rfl
          have hfz42_0 := kfr BK105.out 0
          have hfz42_1 := kfr BK105.out 1
          have hfz42_2 := kfr BK105.out 2
          go_wp2
          go_ret
          exact ⟨by first | rfl | (simp [errW_none, errW_some] <;> rfl) | (simp [*, errW_none, errW_some] <;> rfl), by repeat (first | (with_reducible first | exact HB.out | apply bal | apply pdn | apply bd1 | refine bst ?_ GE104.out | refine bst ?_ GE105.out) | exact HB.out)⟩
         ·rw [if_neg c39] at H
          have c39b0 : (a1_1 == 0) = false := beq_eq_false_iff_ne.mpr c39
          have c39b1 : (a1_1 != 0) = true := bne_iff_ne.mpr c39
          obtain rfl := Option.some.inj H
          have hnb43 := NB104_105.out
          have hnc43 := NB105_104.out
          have hcz44_0 : wc.cell? ⟨gb104, 0, none⟩ = some (.int .i64 a0_0) := (kce BK104.out 0).trans rfl
          have hcz44_1 : wc.cell? ⟨gb104, 1, none⟩ = some (.int .i64 a0_1) := (kce BK104.out 1).trans rfl
          have hfz44_0 := kfr BK104.out 0
          have hfz44_1 := kfr BK104.out 1
          have hcz45_0 : wc.cell? ⟨gb105, 0, none⟩ = some (.int .i64 a1_0) := (kce BK105.out 0).trans rfl
          have hcz45_1 : wc.cell? ⟨gb105, 1, none⟩ = some (.int .i64 a1_1) := (kce BK105.out 1).trans rfl
          have hcz45_2 : wc.cell? ⟨gb105, 2, none⟩ = some (.string a1_2) := (kce BK105.out 2).trans rfl
          have hfz45_0 := kfr BK105.out 0
          have hfz45_1 := kfr BK105.out 1
          have hfz45_2 := kfr BK105.out 2
          go_wp2
          go_ret
          exact ⟨by first | rfl | (simp [errW_none, errW_some] <;> rfl) | (simp [*, errW_none, errW_some] <;> rfl), by repeat (first | (with_reducible first | exact HB.out | apply bal | apply pdn | apply bd1 | refine bst ?_ GE104.out | refine bst ?_ GE105.out) | exact HB.out)⟩
        ·rw [if_neg c38] at H
         have c38b0 : (a0_0 == 1) = false := beq_eq_false_iff_ne.mpr c38
         have c38b1 : (a0_0 != 1) = true := bne_iff_ne.mpr c38
         obtain rfl := Option.some.inj H
         have hnb46 := NB104_105.out
         have hnc46 := NB105_104.out
         have hcz47_0 : wc.cell? ⟨gb104, 0, none⟩ = some (.int .i64 a0_0) := (kce BK104.out 0).trans rfl
         have hcz47_1 : wc.cell? ⟨gb104, 1, none⟩ = some (.int .i64 a0_1) := (kce BK104.out 1).trans rfl
         have hfz47_0 := kfr BK104.out 0
         have hfz47_1 := kfr BK104.out 1
         go_wp2
         go_ret
         exact ⟨by first | rfl | (simp [errW_none, errW_some] <;> rfl) | (simp [*, errW_none, errW_some] <;> rfl), by repeat (first | (with_reducible first | exact HB.out | apply bal | apply pdn | apply bd1 | refine bst ?_ GE104.out | refine bst ?_ GE105.out) | exact HB.out)⟩
       ·rw [if_neg c37] at H
        have c37b0 : (a1_0 == 4) = false := beq_eq_false_iff_ne.mpr c37
        have c37b1 : (a1_0 != 4) = true := bne_iff_ne.mpr c37
        by_cases c48 : a1_0 = 5
        ·rw [if_pos c48] at H
         have c48b0 : (a1_0 == 5) = true := beq_iff_eq.mpr c48
         have c48b1 : (a1_0 != 5) = false := bne_eq_false_iff_eq.mpr c48
         clear c48
         by_cases c49 : a0_0 = 1
         ·rw [if_pos c49] at H
          have c49b0 : (a0_0 == 1) = true := beq_iff_eq.mpr c49
          have c49b1 : (a0_0 != 1) = false := bne_eq_false_iff_eq.mpr c49
          clear c49
          replace H := Option.bind_eq_some_iff.mp H
          obtain ⟨t108, A500, H⟩ := H
          replace H : (if t108 = true then (some (a1_2.toList == ([] : List UInt8))) else (some false)) = some r := H
          have A50 := am A500
          clear A500
          by_cases c51 : t108 = true
          ·subst c51
           have H1 : (some (a1_2.toList == ([] : List UInt8))) = some r := by rw [if_pos rfl] at H; exact H
           clear H
           have H := H1
           clear H1
           obtain rfl := Option.some.inj H
           have hnb52 := NB104_105.out
           have hnc52 := NB105_104.out
           have hcz53_0 : wc.cell? ⟨gb104, 0, none⟩ = some (.int .i64 a0_0) := (kce BK104.out 0).trans rfl
           have hcz53_1 : wc.cell? ⟨gb104, 1, none⟩ = some (.int .i64 a0_1) := (kce BK104.out 1).trans rfl
           have hfz53_0 := kfr BK104.out 0
           have hfz53_1 := kfr BK104.out 1
           have hcz54_0 : wc.cell? ⟨gb105, 0, none⟩ = some (.int .i64 a1_0) := (kce BK105.out 0).trans rfl
           have hcz54_1 : wc.cell? ⟨gb105, 1, none⟩ = some (.int .i64 a1_1) := (kce BK105.out 1).trans rfl
           have hcz54_2 : wc.cell? ⟨gb105, 2, none⟩ = some (.string a1_2) := (kce BK105.out 2).trans rfl
           have hfz54_0 := kfr BK105.out 0
           have hfz54_1 := kfr BK105.out 1
           have hfz54_2 := kfr BK105.out 2
           go_wp2_with (first | (go_at_call 60; (with_reducible refine (impl_between.calls a1_1 0 64 true _ A50.out).mono ?_); rintro e w' ⟨rfl, ⟨nd, rfl⟩⟩))
           go_ret
           exact ⟨by first | rfl | (simp [errW_none, errW_some] <;> rfl) | (simp [*, errW_none, errW_some] <;> rfl), by repeat (first | (with_reducible first | exact HB.out | apply bal | apply pdn | apply bd1 | refine bst ?_ GE104.out | refine bst ?_ GE105.out) | exact HB.out)⟩
          ·replace c51 := Bool.eq_false_iff.mpr c51
           subst c51
           have H1 : (some false) = some r := by rw [if_neg (show ¬ (false = true) by decide)] at H; exact H
           clear H
           have H := H1
           clear H1
           obtain rfl := Option.some.inj H
           have hnb55 := NB104_105.out
           have hnc55 := NB105_104.out
           have hcz56_0 : wc.cell? ⟨gb104, 0, none⟩ = some (.int .i64 a0_0) := (kce BK104.out 0).trans rfl
           have hcz56_1 : wc.cell? ⟨gb104, 1, none⟩ = some (.int .i64 a0_1) := (kce BK104.out 1).trans rfl
           have hfz56_0 := kfr BK104.out 0
           have hfz56_1 := kfr BK104.out 1
           have hcz57_0 : wc.cell? ⟨gb105, 0, none⟩ = some (.int .i64 a1_0) := (kce BK105.out 0).trans rfl
           have hcz57_1 : wc.cell? ⟨gb105, 1, none⟩ = some (.int .i64 a1_1) := (kce BK105.out 1).trans rfl
           have hcz57_2 : wc.cell? ⟨gb105, 2, none⟩ = some (.string a1_2) := (kce BK105.out 2).trans rfl
           have hfz57_0 := kfr BK105.out 0
           have hfz57_1 := kfr BK105.out 1
           have hfz57_2 := kfr BK105.out 2
           go_wp2_with (first | (go_at_call 60; (with_reducible refine (impl_between.calls a1_1 0 64 false _ A50.out).mono ?_); rintro e w' ⟨rfl, ⟨nd, rfl⟩⟩))
           go_ret
           exact ⟨by first | rfl | (simp [errW_none, errW_some] <;> rfl) | (simp [*, errW_none, errW_some] <;> rfl), by repeat (first | (with_reducible first | exact HB.out | apply bal | apply pdn | apply bd1 | refine bst ?_ GE104.out | refine bst ?_ GE105.out) | exact HB.out)⟩
         ·rw [if_neg c49] at H
          have c49b0 : (a0_0 == 1) = false := beq_eq_false_iff_ne.mpr c49
          have c49b1 : (a0_0 != 1) = true := bne_iff_ne.mpr c49
          obtain rfl := Option.some.inj H
          have hnb58 := NB104_105.out
          have hnc58 := NB105_104.out
          have hcz59_0 : wc.cell? ⟨gb104, 0, none⟩ = some (.int .i64 a0_0) := (kce BK104.out 0).trans rfl
          have hcz59_1 : wc.cell? ⟨gb104, 1, none⟩ = some (.int .i64 a0_1) := (kce BK104.out 1).trans rfl
          have hfz59_0 := kfr BK104.out 0
          have hfz59_1 := kfr BK104.out 1
          go_wp2
          go_ret
          exact ⟨by first | rfl | (simp [errW_none, errW_some] <;> rfl) | (simp [*, errW_none, errW_some] <;> rfl), by repeat (first | (with_reducible first | exact HB.out | apply bal | apply pdn | apply bd1 | refine bst ?_ GE104.out | refine bst ?_ GE105.out) | exact HB.out)⟩
        ·rw [if_neg c48] at H
         have c48b0 : (a1_0 == 5) = false := beq_eq_false_iff_ne.mpr c48
         have c48b1 : (a1_0 != 5) = true := bne_iff_ne.mpr c48
         obtain rfl := Option.some.inj H
         go_wp2
         go_ret
         exact ⟨by first | rfl | (simp [errW_none, errW_some] <;> rfl) | (simp [*, errW_none, errW_some] <;> rfl), by repeat (first | (with_reducible first | exact HB.out | apply bal | apply pdn | apply bd1 | refine bst ?_ GE104.out | refine bst ?_ GE105.out) | exact HB.out)⟩
 ·replace c4 := Bool.eq_false_iff.mpr c4
  subst c4
  have H1 : (some false) = some r := by rw [if_neg (show ¬ (false = true) by decide)] at H; exact H
  clear H
  have H := H1
  clear H1
  obtain rfl := Option.some.inj H
  go_enter Try.func86, Try.ntmps86
  go_wp2_with (first | ((with_reducible refine gate_dst (N := 2) rfl ?_); (try (refine gate_guard (by rfl) ?_; dsimp only)); refine box_event ?hg (N := 2) ?hd (cs := #[.int .i64 a0_0, .int .i64 a0_1]) (t := 84) ?hr ?_; (case hd => rfl); (case hg => rfl); (case hr => first | (go_simp; done) | (go_simp; rfl)); intro gb104 hg w60 hbox hb; have n0_ := am (below_step (by repeat (first | (with_reducible first | exact HB.out | apply bal | apply pdn | apply bd1) | exact HB.out)) hb); have n1_ := am (hbox); have n2_ := am ((by rw [hg]; exact (below_size (by repeat (first | (with_reducible first | exact HB.out | apply bal | apply pdn | apply bd1) | exact HB.out))) : w.heap.size ≤ gb104)); have n3_ := am ((by rw [hg]; exact (below_size (by repeat (first | (with_reducible first | exact HB.out | apply bal | apply pdn | apply bd1) | exact HB.out))) : w.heap.size ≤ gb104)); clear HB; have HB := n0_; have BK104 := n1_; have GW104 := n2_; have GE104 := n3_; clear n0_ n1_ n2_ n3_; clear hb hbox hg) | ((with_reducible refine gate_dst (N := 3) rfl ?_); (try (refine gate_guard (by rfl) ?_; dsimp only)); refine box_event ?hg (N := 3) ?hd (cs := #[.int .i64 a1_0, .int .i64 a1_1, .string a1_2]) (t := 60) ?hr ?_; (case hd => rfl); (case hg => rfl); (case hr => first | (go_simp; done) | (go_simp; rfl)); intro gb105 hg w61 hbox hb; have n0_ := am (kbb (g := gb104) (o := .cells #[.int .i64 a0_0, .int .i64 a0_1] 84 (0, 0)) (by (with_reducible repeat (first | apply kdn | apply kdr | apply kal)); exact BK104.out) hb); have n1_ := am (below_step (by repeat (first | (with_reducible first | exact HB.out | apply bal | apply pdn | apply bd1 | refine bst ?_ GE104.out) | exact HB.out)) hb); have n2_ := am (hbox); have n3_ := am ((by rw [hg]; exact (below_size (by repeat (first | (with_reducible first | exact HB.out | apply bal | apply pdn | apply bd1 | refine bst ?_ GE104.out) | exact HB.out))) : w.heap.size ≤ gb105)); have n4_ := am ((by rw [hg]; exact (below_size (by repeat (first | (with_reducible first | exact HB.out | apply bal | apply pdn | apply bd1 | refine bst ?_ GE104.out) | exact HB.out))) : w.heap.size ≤ gb105)); have n5_ := am ((by rw [hg]; exact Nat.ne_of_lt (blk_lt (g := gb104) (o := .cells #[.int .i64 a0_0, .int .i64 a0_1] 84 (0, 0)) (by (with_reducible repeat (first | apply kdn | apply kdr | apply kal)); exact BK104.out)) : gb104 ≠ gb105)); have n6_ := am ((by rw [hg]; exact Nat.ne_of_gt (blk_lt (g := gb104) (o := .cells #[.int .i64 a0_0, .int .i64 a0_1] 84 (0, 0)) (by (with_reducible repeat (first | apply kdn | apply kdr | apply kal)); exact BK104.out)) : gb105 ≠ gb104)); clear BK104; clear HB; have BK104 := n0_; have HB := n1_; have BK105 := n2_; have GW105 := n3_; have GE105 := n4_; have NB104_105 := n5_; have NB105_104 := n6_; clear n0_ n1_ n2_ n3_ n4_ n5_ n6_; clear hb hbox hg; have hnb62 := NB104_105.out; have hnc62 := NB105_104.out; have hcz63_0 : w61.cell? ⟨gb104, 0, none⟩ = some (.int .i64 a0_0) := (kce BK104.out 0).trans rfl; have hcz63_1 : w61.cell? ⟨gb104, 1, none⟩ = some (.int .i64 a0_1) := (kce BK104.out 1).trans rfl; have hfz63_0 := kfr BK104.out 0; have hfz63_1 := kfr BK104.out 1) | ((with_reducible refine gate_callee (f := 117) rfl ?_); refine goesL_ (some 6) rfl rfl Try.func117 (by kernel_rfl) rfl #[.agg #[.int .i64 a0_0, .int .i64 a0_1]] rfl (by (try simp only [mta, mco, mni]); first | done | rfl | (simp only [lnd, lnt]; rfl)) ?_; (with_reducible refine (impl_CodeOk.calls a0_0 a0_1 false _ A3.out).mono ?_); rintro e w64 ⟨rfl, hb⟩; refine ⟨_, rfl, ?_⟩; have n0_ := am (kbb (g := gb104) (o := .cells #[.int .i64 a0_0, .int .i64 a0_1] 84 (0, 0)) (by (with_reducible repeat (first | apply kdn | apply kdr | apply kal)); exact BK104.out) hb); have n1_ := am (kbb (g := gb105) (o := .cells #[.int .i64 a1_0, .int .i64 a1_1, .string a1_2] 60 (0, 0)) (by (with_reducible repeat (first | apply kdn | apply kdr | apply kal)); exact BK105.out) hb); have n2_ := am (below_step (by repeat (first | (with_reducible first | exact HB.out | apply bal | apply pdn | apply bd1 | refine bst ?_ GE104.out | refine bst ?_ GE105.out) | exact HB.out)) hb); clear BK104; clear BK105; clear HB; have BK104 := n0_; have BK105 := n1_; have HB := n2_; clear n0_ n1_ n2_; (try clear hb); (try clear hb2); (try clear hk); (try clear hi)))
  go_ret
  exact ⟨by first | rfl | (simp [errW_none, errW_some] <;> rfl) | (simp [*, errW_none, errW_some] <;> rfl), by repeat (first | (with_reducible first | exact HB.out | apply bal | apply pdn | apply bd1 | refine bst ?_ GE104.out | refine bst ?_ GE105.out) | exact HB.out)⟩

/-! ### impl_plainCode: function 87 -/
def impl_plainCode.f  : Option (Int × Int) := some (1, 0)
set_option maxHeartbeats 8000000 in
set_option maxRecDepth 100000 in
theorem impl_plainCode.calls  (r1 : Int) (r2 : Int) (w : World) (h : impl_plainCode.f  = some (r1, r2)) :
  Calls Try.prog 87 #[] w fun e w' => e = .returned (.agg #[.int .i64 r1, .int .i64 r2]) ∧ Below w.heap.size w w' := by
 have hu84 := Try.underlying84
 have HB := am (Below.refl w.heap.size w)
 have H : (some (1, 0)) = some (r1, r2) := h
 clear h
 simp only [Option.some.injEq, Prod.mk.injEq] at H
 obtain ⟨rfl, rfl⟩ := H
 go_enter Try.func87, Try.ntmps87
 go_wp2_with (first | ((with_reducible refine gate_dst (N := 0) rfl ?_); refine box_event ?hg (N := 0) ?hd (cs := #[.int .i64 0, .int .i64 0]) (t := 84) ?hr ?_; (case hd => rfl); (case hg => rfl); (case hr => first | (go_simp; done) | (go_simp; rfl)); intro gb109 hg w1 hbox hb; have n0_ := am (below_step (by repeat (first | (with_reducible first | exact HB.out | apply bal | apply pdn | apply bd1) | exact HB.out)) hb); have n1_ := am (hbox); have n2_ := am ((by rw [hg]; exact (below_size (by repeat (first | (with_reducible first | exact HB.out | apply bal | apply pdn | apply bd1) | exact HB.out))) : w.heap.size ≤ gb109)); have n3_ := am ((by rw [hg]; exact (below_size (by repeat (first | (with_reducible first | exact HB.out | apply bal | apply pdn | apply bd1) | exact HB.out))) : w.heap.size ≤ gb109)); clear HB; have HB := n0_; have BK109 := n1_; have GW109 := n2_; have GE109 := n3_; clear n0_ n1_ n2_ n3_; clear hb hbox hg; have hcz2_0 : w1.cell? ⟨gb109, 0, none⟩ = some (.int .i64 0) := (kce BK109.out 0).trans rfl; have hcz2_1 : w1.cell? ⟨gb109, 1, none⟩ = some (.int .i64 0) := (kce BK109.out 1).trans rfl; have hfz2_0 := kfr BK109.out 0; have hfz2_1 := kfr BK109.out 1))
 refine bodyPost_ret (results_cell_row rfl _ _ gb109 84 #[.int .i64 1, .int .i64 0] (0, 0) _ rfl (by (with_reducible repeat (first | apply kdn | apply kdr | apply kal)); refine blk_put (cs := #[.int .i64 1, .int .i64 0]) ?_ 1 _ rfl; (with_reducible repeat (first | apply kdn | apply kdr | apply kal)); refine blk_put (cs := #[.int .i64 0, .int .i64 0]) ?_ 0 _ rfl; (with_reducible repeat (first | apply kdn | apply kdr | apply kal)); exact BK109.out) Try.underlying84 rfl (by kernel_rfl)) rfl ?_
 exact ⟨by first | rfl | (simp [errW_none, errW_some] <;> rfl) | (simp [*, errW_none, errW_some] <;> rfl), by repeat (first | (with_reducible first | exact HB.out | apply bal | apply pdn | apply bd1 | refine bst ?_ GE109.out) | exact HB.out)⟩

/-! ### spec_l16Lay: function 94 -/
/-- A row of bytes that a conversion may have marked behind its end. -/
def spec_l16Lay.MB (e : TypeId) (w : World) (base g cap : Nat) (l : List Int) : Prop :=
 ∃ cur fz, base ≤ g ∧ w.heap[g]? = some (.cells cur e fz) ∧ (fz.2 = 0 ∨ cur.size ≤ fz.1) ∧ l.length ≤ cap ∧ cap ≤ maxLen ∧ cur.size = cap ∧ cur.toList.take l.length = l.map (Value.int .u8)
def spec_l16Lay.strNums (s : ByteArray) : List Int := s.data.toList.map fun b => (b.toNat : Int)
theorem spec_l16Lay.strNums_length (s : ByteArray) : (spec_l16Lay.strNums s).length = s.size := by simp [strNums]
theorem spec_l16Lay.MB.lt {e : TypeId} {w : World} {base g cap : Nat} {l : List Int} (h : spec_l16Lay.MB e w base g cap l) : g < w.heap.size := by
 obtain ⟨cur, fz, _, hg, _⟩ := h
 exact (Array.getElem?_eq_some_iff.1 hg).1
theorem spec_l16Lay.MB.base {e : TypeId} {w : World} {base g cap : Nat} {l : List Int} (h : spec_l16Lay.MB e w base g cap l) : base ≤ g := by
 obtain ⟨cur, fz, hb, _⟩ := h
 exact hb
theorem spec_l16Lay.MB.len {e : TypeId} {w : World} {base g cap : Nat} {l : List Int} (h : spec_l16Lay.MB e w base g cap l) : l.length ≤ cap ∧ cap ≤ maxLen := by
 obtain ⟨cur, fz, _, _, _, h1, h2, _⟩ := h
 exact ⟨h1, h2⟩
theorem spec_l16Lay.MB.alloc {e : TypeId} {w : World} {base g cap : Nat} {l : List Int} (h : spec_l16Lay.MB e w base g cap l) (o : Obj) : spec_l16Lay.MB e (w.alloc o) base g cap l := by
 have hlt := h.lt
 obtain ⟨cur, fz, hb, hg, hr⟩ := h
 exact ⟨cur, fz, hb, (heap_alloc_old w o hlt).trans hg, hr⟩
theorem spec_l16Lay.MB.setOther {e : TypeId} {w : World} {base g cap : Nat} {l : List Int} (h : spec_l16Lay.MB e w base g cap l) (p : Addr) (hp : p.block ≠ g) (u : Value) : spec_l16Lay.MB e (w.setCell p u) base g cap l := by
 obtain ⟨cur, fz, hb, hg, hr⟩ := h
 exact ⟨cur, fz, hb, (Below.heap_setCell _ _ _ _ (by omega)).trans hg, hr⟩
theorem spec_l16Lay.MB.cell {e : TypeId} {w : World} {base g cap : Nat} {l : List Int} (h : spec_l16Lay.MB e w base g cap l) (i : Nat) (hi : i < l.length) : w.cell? ⟨g, i, none⟩ = some (.int .u8 (l.getD i 0)) := by
 obtain ⟨cur, fz, hb, hg, hfz, h1, h2, h3, h4⟩ := h
 rw [cell_of_row w g i cur e fz hg]
 have := congrArg (fun z => z[i]?) h4
 simp only [List.getElem?_take, hi, if_pos, List.getElem?_map] at this
 simpa [List.getD, hi] using this
theorem spec_l16Lay.MB.frozen {e : TypeId} {w : World} {base g cap : Nat} {l : List Int} (h : spec_l16Lay.MB e w base g cap l) (i : Nat) (hi : i < l.length) : w.frozen? ⟨g, i, none⟩ = false := by
 obtain ⟨cur, ⟨lo, hh⟩, hb, hg, hfz, h1, h2, h3, h4⟩ := h
 simp only [World.frozen?, hg, Bool.and_eq_false_iff, decide_eq_false_iff_not]
 simp only at hfz
 omega
theorem spec_l16Lay.MB.set {e : TypeId} {w : World} {base g cap : Nat} {l : List Int} (h : spec_l16Lay.MB e w base g cap l) (i : Nat) (hi : i < l.length) (x : Int) : spec_l16Lay.MB e (w.setCell ⟨g, i, none⟩ (.int .u8 x)) base g cap (l.set i x) := by
 obtain ⟨cur, fz, hb, hg, hfz, h1, h2, h3, h4⟩ := h
 refine ⟨cur.setIfInBounds i (.int .u8 x), fz, hb, ?_, by simpa using hfz, by simpa using h1, h2, by simpa using h3, ?_⟩
 ·rw [setCell_eq_setRow w g i cur e fz _ hg]
  exact setRow_heap w g cur _ e fz hg
 ·rw [Array.toList_setIfInBounds, List.length_set, List.take_set, h4, List.map_set]
open Go.Lib in
theorem spec_l16Lay.MB.conv {P : Program} {src dst e : TypeId} {u : TypeDesc} (hs : P.underlying src = some u) (hd : P.underlying dst = some (.slice e)) (he : P.underlying e = some (.int .u8)) (w : World) (s : ByteArray) (hsz : s.size ≤ maxLen) :
  ∃ cap w', (convert src dst (.string s)).run P w = .ok (.slice (some ⟨w.heap.size, 0, none⟩) s.size cap) w' ∧ spec_l16Lay.MB e w' w.heap.size w.heap.size cap (spec_l16Lay.strNums s) ∧ Below w.heap.size w w' := by
 refine ⟨_, _, Go.Lib.run_convert_string_bytes w src dst e s hs hd he, ?_, ?_⟩
 ·have hge := grownCap_ge w s.size 0 e
  refine ⟨_, _, Nat.le_refl _, bytesWorld_at_new w e s, .inr (Nat.le_refl _), by rw [spec_l16Lay.strNums_length]; exact hge, grownCap_le_maxLen w _ _ e hsz, ?_, ?_⟩
  ·simp only [bytesCells, Array.size_append, Array.size_map, Array.size_replicate]
   have : s.data.size = s.size := rfl
   omega
  ·simp [strNums, bytesCells, spec_l16Lay.strNums_length, List.map_map, Function.comp_def]
 ·refine ⟨rfl, rfl, rfl, by rw [bytesWorld_size]; omega, fun k hk => bytesWorld_at_old w e s k hk⟩
theorem spec_l16Lay.MB.toStr {P : Program} {src dst e : TypeId} (hs : P.underlying src = some (.slice e)) (he : P.underlying e = some (.int .u8)) (hd : P.underlying dst = some .string) {w : World} {base g cap : Nat} {l : List Int} (h : spec_l16Lay.MB e w base g cap l) :
  (convert src dst (.slice (some ⟨g, 0, none⟩) l.length cap)).run P w = .ok (.string (strOfNums l)) w :=
 run_convert_bytes_arg w src e hs he g 0 l.length cap l rfl (fun i hi => by rw [Nat.zero_add]; exact h.cell i hi) dst hd
theorem spec_l16Lay.MB.append {P : Program} {t ty e : TypeId} {i : TypeInfo} (ht : P.underlying t = some (.slice e)) (hi : P.info? e = some i) (hz : i.zero = some (.int .u8 0)) (hsize : i.size = 1) (hby : i.bytes = 1)
  {w : World} {base g cap : Nat} {l : List Int} (h : spec_l16Lay.MB e w base g cap l) (hB : base ≤ w.heap.size) (ad : Addr) (c : Nat) (x : Int) (hx : w.cell? ad = some (.int .u8 x)) (hl : l.length < 1000000) :
  ∃ g' cap' w', (Builtin.append_ #[t, t] ty #[.slice (some ⟨g, 0, none⟩) l.length cap, .slice (some ad) 1 c]).run P w = .ok (.slice (some ⟨g', 0, none⟩) (l.length + 1) cap') w' ∧ spec_l16Lay.MB e w' base g' cap' (l ++ [x]) ∧ Below base w w' := by
 have hnews : ∀ j u, [Value.int .u8 x][j]? = some u → w.cell? (ad.add j) = some u := by
  intro j u hj
  cases j with
  | zero => simp at hj; subst hj; rw [show ad.add 0 = ad from by obtain ⟨b, o, sp⟩ := ad; unfold Addr.add; split <;> simp_all]; exact hx
  | succ j => simp at hj
 have hcl : ∀ j, j < l.length → w.cell? ⟨g, j, none⟩ = some (.int .u8 (l.getD j 0)) := fun j hj => h.cell j hj
 obtain ⟨cur, fz, hb, hg, hfz, h1, h2, h3, h4⟩ := h
 by_cases hroom : l.length + 1 ≤ cap
 ·have hf := run_firstCells_some (P := P) w i.size 1 ad 1 c [Value.int .u8 x] (by simp [hsize]) hnews
  have hcell : w.cell? ⟨g, l.length, none⟩ = some cur[l.length] := by simp [World.cell?, hg, show l.length < cur.size by omega]
  have hfro : w.frozen? ⟨g, l.length, none⟩ = false := by
   obtain ⟨lo, hh⟩ := fz
   simp only [World.frozen?, hg, Bool.and_eq_false_iff, decide_eq_false_iff_not]
   simp only at hfz
   omega
  have hst : (storeCells ⟨g, l.length, none⟩ [Value.int .u8 x]).run P w = .ok () (w.setCell ⟨g, l.length, none⟩ (.int .u8 x)) := by
   simp only [storeCells, Sem.run_bind]
   rw [show (⟨g, l.length, none⟩ : Addr).add 0 = ⟨g, l.length, none⟩ from by unfold Addr.add; split <;> simp_all, run_store P w _ _ _ (by rfl), hcell]
   simp [hfro]
  refine ⟨g, cap, w.setCell ⟨g, l.length, none⟩ (.int .u8 x), ?_, ?_, ?_⟩
  ·simp [Builtin.append_, run_underlying ht, sizeOf, typeInfo, hi, hsize, Builtin.lenOf, hroom, hsize ▸ hf, Addr.add_lit, hst]
  ·refine ⟨cur.setIfInBounds l.length (.int .u8 x), fz, hb, ?_, by simpa using hfz, by simpa using hroom, h2, by simpa using h3, ?_⟩
   ·rw [setCell_eq_setRow w g l.length cur e fz _ hg]
    exact setRow_heap w g cur _ e fz hg
   ·rw [Array.toList_setIfInBounds, List.length_append, List.length_singleton, List.take_add_one, List.map_append, ← h4, List.take_set_of_le (Nat.le_refl _)]
    congr 1
    rw [List.getElem?_set_self (by simp; omega)]
    rfl
  ·exact (Below.refl base w).setCell (p := ⟨g, l.length, none⟩) hb _
 ·have hr := run_append_grow (P := P) w t ty e i (.int .u8 0) ht hi hz ⟨g, 0, none⟩ l.length cap (l.map (Value.int .u8)) (by simp [hsize]) (fun j v hj => by
    have hjl : j < l.length := by
     rcases Nat.lt_or_ge j l.length with h | h
     ·exact h
     ·simp [List.getElem?_eq_none (show (l.map (Value.int .u8)).length ≤ j by simpa using h)] at hj
    rw [show (⟨g, 0, none⟩ : Addr).add j = ⟨g, j, none⟩ from by unfold Addr.add; split <;> simp_all, hcl j hjl]
    simpa [List.getD, hjl] using hj) ad 1 c [Value.int .u8 x] (by simp [hsize]) hnews (by omega) (by omega) (by rw [hby]; exact growslice_fits (by omega) (by omega))
  have hge := grownCap_ge w (l.length + 1) cap e
  have hcm : grownCap w (l.length + 1) cap e ≤ maxLen := grownCap_le_maxLen w (l.length + 1) cap e (by unfold maxLen; omega)
  refine ⟨_, _, _, hr, ⟨_, (0, 0), hB, heap_alloc_new w.drew _, .inl rfl, by simpa using hge, hcm, ?_, ?_⟩, ⟨rfl, rfl, rfl, by simp, fun k hk => by first | exact heap_alloc_old w.drew _ k (show k < w.heap.size by omega) | exact heap_alloc_old w.drew _ (show k < w.heap.size by omega)⟩⟩
  ·simp [size_zeroCells, Value.cells]
   omega
  ·simp [List.take_append]
   exact List.take_of_length_le (by simp)

theorem spec_l16Lay.MB.wconv {P : Program} {ops : Array Oper} {rest : List Oper} {o : Oper} {a : Act} {Q : Exit → Act → World → Prop} {w : World} (hgd : o.guard = none) (x : Operand) (src dst e : TypeId) (u : TypeDesc) (ho : o.op = .convert src dst x)
  (hs : P.underlying src = some u) (hd : P.underlying dst = some (.slice e)) (he : P.underlying e = some (.int .u8)) (s : ByteArray) (hx : a.eval x = .string s) (hsz : s.size ≤ maxLen)
  (h : ∀ cap w', spec_l16Lay.MB e w' w.heap.size w.heap.size cap (spec_l16Lay.strNums s) → Below w.heap.size w w' → wpList P ops Q rest (a.put o.dst (.slice (some ⟨w.heap.size, 0, none⟩) s.size cap)) w') : wpList P ops Q (o :: rest) a w := by
 refine wpList_plain hgd fun K hK => ?_
 obtain ⟨cap, w', hr, h2, h3⟩ := spec_l16Lay.MB.conv (P := P) hs hd he w s hsz
 unfold Oper.wp execOp
 simp only [ho, Sem.run_bind, Sem.run_pure, Result.andThen_ok, hx, hr]
 exact hK _ _ (h cap w' h2 h3)
theorem spec_l16Lay.MB.wappend {P : Program} {ops : Array Oper} {rest : List Oper} {o : Oper} {a : Act} {Q : Exit → Act → World → Prop} {w : World} (hgd : o.guard = none) (sl x : Operand) (t : TypeId)
  (ho : o.op = .call { callee := .builtin .append, args := #[sl, x], argTypes := #[t, t] }) (e : TypeId) (i : TypeInfo) (ht : P.underlying t = some (.slice e)) (hi : P.info? e = some i) (hz : i.zero = some (.int .u8 0)) (hsize : i.size = 1) (hby : i.bytes = 1)
  (base g cap : Nat) (l : List Int) (h : spec_l16Lay.MB e w base g cap l) (hB : base ≤ w.heap.size) (n : Nat) (hn : l.length = n) (hs : a.eval sl = .slice (some ⟨g, 0, none⟩) n cap) (ad : Addr) (c : Nat) (y : Int) (hx : a.eval x = .slice (some ad) 1 c) (hy : w.cell? ad = some (.int .u8 y)) (hl : l.length < 1000000)
  (hk : ∀ g' cap' w', spec_l16Lay.MB e w' base g' cap' (l ++ [y]) → Below base w w' → wpList P ops Q rest (a.put o.dst (.slice (some ⟨g', 0, none⟩) (n + 1) cap')) w') : wpList P ops Q (o :: rest) a w := by
 subst hn
 refine wpList_plain hgd fun K hK => ?_
 obtain ⟨g', cap', w', hr, h2, h3⟩ := spec_l16Lay.MB.append (P := P) (ty := o.type) ht hi hz hsize hby h hB ad c y hy hl
 unfold Oper.wp execOp
 simp only [ho, resolve, invoke, builtin, Sem.run_bind, Sem.run_pure, Result.andThen_ok, mta, mco, mni, hs, hx, hr]
 exact hK _ _ (hk g' cap' w' h2 h3)
theorem spec_l16Lay.MB.wstr {P : Program} {ops : Array Oper} {rest : List Oper} {o : Oper} {a : Act} {Q : Exit → Act → World → Prop} {w : World} (hgd : o.guard = none) (x : Operand) (src dst e : TypeId) (ho : o.op = .convert src dst x)
  (hs : P.underlying src = some (.slice e)) (he : P.underlying e = some (.int .u8)) (hd : P.underlying dst = some .string) (base g cap n : Nat) (l : List Int) (h : spec_l16Lay.MB e w base g cap l) (hn : l.length = n) (hx : a.eval x = .slice (some ⟨g, 0, none⟩) n cap)
  (hk : wpList P ops Q rest (a.put o.dst (.string (strOfNums l))) w) : wpList P ops Q (o :: rest) a w := by
 subst hn
 refine wpList_plain hgd fun K hK => ?_
 have hr := spec_l16Lay.MB.toStr (P := P) hs he hd h
 unfold Oper.wp execOp
 simp only [ho, Sem.run_bind, Sem.run_pure, Result.andThen_ok, hx, hr]
 exact hK _ _ hk
def spec_l16Lay.toI (L : List UInt8) : List Int := L.map fun b => (b.toNat : Int)
theorem spec_l16Lay.toI_length (L : List UInt8) : (spec_l16Lay.toI L).length = L.length := by simp [spec_l16Lay.toI]
theorem spec_l16Lay.str_toI (L : List UInt8) : strOfNums (spec_l16Lay.toI L) = ⟨L.toArray⟩ := by
 unfold strOfNums spec_l16Lay.toI
 congr 1
 simp [Function.comp_def]
def spec_l16Lay.pad (B : List UInt8) (a : Nat) : List UInt8 := B ++ List.replicate (a - B.length) 0
def spec_l16Lay.lay (P X : List UInt8) (a i : Nat) : List UInt8 := P.take a ++ X.take i ++ P.drop (a + i)
theorem spec_l16Lay.pad_length (B : List UInt8) (a : Nat) : (spec_l16Lay.pad B a).length = max B.length a := by simp [spec_l16Lay.pad]; omega
theorem spec_l16Lay.lay_length (P X : List UInt8) (a i : Nat) (ha : a ≤ P.length) (hi : i ≤ X.length) : (spec_l16Lay.lay P X a i).length = max P.length (a + i) := by
 simp [spec_l16Lay.lay, lnt, lnd]; omega
theorem spec_l16Lay.lay_zero (P X : List UInt8) (a : Nat) : spec_l16Lay.lay P X a 0 = P := by simp [spec_l16Lay.lay]
theorem spec_l16Lay.lay_set (P X : List UInt8) (a i : Nat) (ha : a ≤ P.length) (hi : i < X.length) (hp : a + i < P.length) : (spec_l16Lay.lay P X a i).set (a + i) (X.getD i 0) = spec_l16Lay.lay P X a (i + 1) := by
 have h1 : (P.take a ++ X.take i).length = a + i := by simp [lnt]; omega
 unfold spec_l16Lay.lay
 rw [List.set_append_right _ _ (by omega), h1, Nat.sub_self]
 have e : P.drop (a + i) = P[a + i] :: P.drop (a + (i + 1)) := List.drop_eq_getElem_cons hp
 have e2 : X.getD i 0 = X[i] := by simp [List.getD, hi]
 rw [e, scz, List.take_succ_eq_append_getElem hi, e2]
 simp only [List.append_assoc, List.cons_append, List.nil_append]
theorem spec_l16Lay.lay_app (P X : List UInt8) (a i : Nat) (hi : i < X.length) (hp : P.length ≤ a + i) : spec_l16Lay.lay P X a i ++ [X.getD i 0] = spec_l16Lay.lay P X a (i + 1) := by
 unfold spec_l16Lay.lay
 have e2 : X.getD i 0 = X[i] := by simp [List.getD, hi]
 rw [List.drop_of_length_le hp, List.drop_of_length_le (by omega), List.take_succ_eq_append_getElem hi, e2]
 simp only [List.append_assoc, List.append_nil]
def spec_l16Lay.f (body : ByteArray) (a : Int) (bytes : ByteArray) : Option (ByteArray) :=
 if 0 ≤ a ∧ a ≤ 64 ∧ body.size ≤ 64 ∧ bytes.size ≤ 64 then some ⟨(spec_l16Lay.lay (spec_l16Lay.pad body.data.toList a.toNat) bytes.data.toList a.toNat (min bytes.size (64 - a.toNat))).toArray⟩ else none
set_option maxHeartbeats 4000000 in
set_option maxRecDepth 100000 in
theorem spec_l16Lay.calls (a0 : ByteArray) (a1 : Int) (a2 : ByteArray) (r : ByteArray) (w : World) (h : spec_l16Lay.f a0 a1 a2 = some r) :
  Calls Try.prog 94 #[.string a0, .int .i64 a1, .string a2] w fun e w' => e = .returned (.string r) ∧ Below w.heap.size w w' := by
 unfold spec_l16Lay.f at h
 split at h
 case isFalse => cases h
 rename_i hc
 obtain ⟨hc0, hc1, hc2, hc3⟩ := hc
 obtain ⟨a, rfl⟩ := Int.eq_ofNat_of_zero_le hc0
 rw [Int.toNat_natCast] at h
 have HR := am (Option.some.inj h)
 clear h hc0
 have hl0 : a0.data.toList.length = a0.size := by simp
 have hl2 : a2.data.toList.length = a2.size := by simp
 obtain ⟨B, hB⟩ : ∃ B, B = a0.data.toList := ⟨_, rfl⟩
 obtain ⟨X, hX⟩ : ∃ X, X = a2.data.toList := ⟨_, rfl⟩
 rw [← hB] at hl0 HR
 rw [← hX] at hl2 HR
 have HX := am hX
 have HB0 := am (show spec_l16Lay.strNums a0 = spec_l16Lay.toI B by rw [hB]; rfl)
 clear hX hB
 obtain ⟨i0, hi, hz0, hz1, hz2⟩ := info_parts info5
 go_enter Try.func94, Try.ntmps94
 go_wp2_with (first | ((with_reducible refine gate_dst (N := 10) rfl ?_); refine spec_l16Lay.MB.wconv rfl (.tmp 9) 9 48 5 _ rfl Try.underlying9 Try.underlying48 Try.underlying5 a0 rfl (by unfold maxLen; omega) ?_; intro cap w1 hM hb1))
 rw [HB0.out] at hM
 have HM := am hM
 have HW := am hb1
 clear hM hb1
 go_loopg [7] (a - B.length) (fun gg s7 wr => ∃ (n g cp : Nat) (L : List UInt8), s7 = .slice (some ⟨g, 0, none⟩) n cp ∧ Aside0 (L.length = n ∧ B.length ≤ n ∧ n ≤ max B.length a ∧ a - n ≤ gg ∧ L ++ List.replicate (a - n) 0 = spec_l16Lay.pad B a) ∧ Aside0 (spec_l16Lay.MB 5 wr w.heap.size g cp (spec_l16Lay.toI L)) ∧ Aside0 (Below w.heap.size w wr))
 case atStart => exact ⟨_, _, _, B, by rw [← hl0], ⟨rfl, Nat.le_refl _, by omega, Nat.le_refl _, rfl⟩, HM, HW⟩
 case round =>
  obtain ⟨n, g, cp, L, rfl, HN, HM, HW⟩ := hrel
  by_cases hlt : n < a
  ·have hltz : (n : Int) < (a : Int) := by omega
   go_wp2_with (first | ((with_reducible refine gate_builtin (b := .append) (xs := #[.tmp 15, .tmp 16]) rfl ?_); at_builtin; refine spec_l16Lay.MB.wappend rfl (.tmp 15) (.tmp 16) 48 rfl 5 i0 Try.underlying48 hi hz0 hz1 hz2 w.heap.size g cp (spec_l16Lay.toI L) (HM.out.alloc _) (by have := HW.out.size; simp; omega) n (by rw [spec_l16Lay.toI_length]; exact HN.out.1) rfl ⟨wr.heap.size, 0, none⟩ 1 0 rfl (by simp) (by have := HN.out; rw [spec_l16Lay.toI_length]; omega) ?_; intro g' cp' w' hM' hB'; have HM' := am hM'; have HB' := am hB'; clear hM' hB'))
   go_roundg (a - (n + 1))
   case measure => have := HN.out; omega
   case rel =>
    have hn := HN.out
    refine ⟨n + 1, g', cp', L ++ [0], rfl, ⟨by simp [hn.1], by omega, by omega, Nat.le_refl _, ?_⟩, ⟨by have := HM'.out; rw [show spec_l16Lay.toI (L ++ [0]) = spec_l16Lay.toI L ++ [0] from by simp [spec_l16Lay.toI]]; exact this⟩, ⟨(HW.out.alloc HW.out.size _).trans HB'.out⟩⟩
    rw [← hn.2.2.2.2, show a - n = (a - (n + 1)) + 1 from by omega, List.replicate_succ, List.append_assoc]
    rfl
  ·have hltz : ¬ (n : Int) < (a : Int) := by omega
   have hn := HN.out
   obtain rfl : L = spec_l16Lay.pad B a := by
    have := hn.2.2.2.2
    rw [show a - n = 0 from by omega] at this
    simpa using this
   have HN2 := am (show n = max B.length a from by omega)
   clear HN hn
   go_wp2
   go_loopg [7, 8] a2.size (fun gg s7 s8 wr => ∃ (i n g cp : Nat), s8 = .int .i64 i ∧ s7 = .slice (some ⟨g, 0, none⟩) n cp ∧ Aside0 (i ≤ X.length ∧ i ≤ 64 - a ∧ a2.size - i ≤ gg ∧ n = max B.length (a + i)) ∧ Aside0 (spec_l16Lay.MB 5 wr w.heap.size g cp (spec_l16Lay.toI (spec_l16Lay.lay (spec_l16Lay.pad B a) X a i))) ∧ Aside0 (Below w.heap.size w wr))
   case atStart => exact ⟨0, n, g, cp, rfl, rfl, ⟨Nat.zero_le _, Nat.zero_le _, Nat.le_refl _, by have := HN2.out; omega⟩, ⟨by rw [spec_l16Lay.lay_zero]; exact HM.out⟩, HW⟩
   case round =>
    obtain ⟨i, n, g, cp, rfl, rfl, HN, HM, HW⟩ := hrel
    have hn := HN.out
    have hPl := spec_l16Lay.pad_length B a
    have hll := spec_l16Lay.lay_length (spec_l16Lay.pad B a) X a i (by omega) hn.1
    have htn : ((a : Int) + (i : Int)).toNat = a + i := by omega
    have HWR : Aside0 (wrap64 ((a : Int) + (i : Int)) = (a : Int) + (i : Int)) := ⟨by unfold wrap64; omega⟩
    have hib : i < a2.size → (a2[i]!.toNat : Int) = (((X.getD i 0) : UInt8).toNat : Int) := fun h => by
     have hx := HX.out
     subst hx
     have h' : i < a2.data.toList.length := by simpa using h
     have e : a2.data.toList.getD i 0 = a2.data.toList[i] := by simp only [List.getD, List.getElem?_eq_getElem h', Option.getD_some]
     rw [getElem!_pos a2 i h, e, Array.getElem_toList]
     rfl
    have HIB := am hib
    clear hib
    by_cases hi1 : i < X.length
    ·have hi1b : decide ((i : Int) < (a2.size : Int)) = true := decide_eq_true (by omega)
     have hi1n : i < a2.size := by omega
     by_cases h64 : a + i < 64
     ·have h64b : decide (wrap64 ((a : Int) + (i : Int)) < 64) = true := decide_eq_true (by rw [HWR.out]; omega)
      by_cases hs : a + i < n
      ·have hsb : decide (wrap64 ((a : Int) + (i : Int)) < (n : Int)) = true := decide_eq_true (by rw [HWR.out]; omega)
       have HC := HM.out.cell (a + i) (by rw [spec_l16Lay.toI_length, hll]; omega)
       have HF := HM.out.frozen (a + i) (by rw [spec_l16Lay.toI_length, hll]; omega)
       have HSET := am (HM.out.set (a + i) (by rw [spec_l16Lay.toI_length, hll]; omega) (((X.getD i 0) : UInt8).toNat : Int))
       have HLS := am (spec_l16Lay.lay_set (spec_l16Lay.pad B a) X a i (by omega) hi1 (by omega))
       have HN1 := am (show i + 1 ≤ X.length ∧ i + 1 ≤ 64 - a ∧ n = max B.length (a + (i + 1)) from by omega)
       clear hn hPl hll htn
       go_upto_if 35 with fail
       rw [HWR.out] at *
       have hp0 : ((0 : Int) ≤ (a : Int) + (i : Int)) = True := eq_true (by omega)
       have hp1 : ((a : Int) + (i : Int) < (n : Int)) = True := eq_true (by have := of_decide_eq_true hsb; omega)
       have hq0 : ((0 : Int) ≤ (i : Int)) = True := eq_true (by omega)
       have hq1 : ((i : Int) < (a2.size : Int)) = True := eq_true (of_decide_eq_true hi1b)
       have htn : ((a : Int) + (i : Int)).toNat = a + i := by omega
       go_wp2
       go_roundg (a2.size - (i + 1))
       case measure => have := HN.out; have := of_decide_eq_true hi1b; omega
       case rel =>
        have h1 := HN1.out
        have e : (a2[i].toNat : Int) = (((X.getD i 0) : UInt8).toNat : Int) := by rw [← HIB.out hi1n, getElem!_pos a2 i hi1n]
        refine ⟨i + 1, n, g, cp, by go_num, rfl, ⟨h1.1, h1.2.1, Nat.le_refl _, h1.2.2⟩, ⟨?_⟩, ⟨HW.out.setCell (p := ⟨g, a + i, none⟩) HM.out.base _⟩⟩
        have h2 := HSET.out
        rw [← HLS.out, e]
        rw [show (spec_l16Lay.toI (spec_l16Lay.lay (spec_l16Lay.pad B a) X a i)).set (a + i) (((X.getD i 0) : UInt8).toNat : Int) = spec_l16Lay.toI ((spec_l16Lay.lay (spec_l16Lay.pad B a) X a i).set (a + i) (X.getD i 0)) from by simp [spec_l16Lay.toI, List.map_set]] at h2
        exact h2
      ·have hsb : decide (wrap64 ((a : Int) + (i : Int)) < (n : Int)) = false := decide_eq_false (by rw [HWR.out]; omega)
       have HLS := am (spec_l16Lay.lay_app (spec_l16Lay.pad B a) X a i hi1 (by omega))
       have HN1 := am (show i + 1 ≤ X.length ∧ i + 1 ≤ 64 - a ∧ n + 1 = max B.length (a + (i + 1)) ∧ (spec_l16Lay.toI (spec_l16Lay.lay (spec_l16Lay.pad B a) X a i)).length = n ∧ (spec_l16Lay.toI (spec_l16Lay.lay (spec_l16Lay.pad B a) X a i)).length < 1000000 from by rw [spec_l16Lay.toI_length, hll]; omega)
       clear hn hPl hll htn
       go_upto_if 35 with fail
       rw [HWR.out] at *
       have hq0 : ((0 : Int) ≤ (i : Int)) = True := eq_true (by omega)
       have hq1 : ((i : Int) < (a2.size : Int)) = True := eq_true (of_decide_eq_true hi1b)
       go_wp2_with (first | ((with_reducible refine gate_builtin (b := .append) (xs := #[.tmp 44, .tmp 48]) rfl ?_); at_builtin; refine spec_l16Lay.MB.wappend rfl (.tmp 44) (.tmp 48) 48 rfl 5 i0 Try.underlying48 hi hz0 hz1 hz2 w.heap.size g cp (spec_l16Lay.toI (spec_l16Lay.lay (spec_l16Lay.pad B a) X a i)) (HM.out.alloc _) (by have := HW.out.size; simp; omega) n HN1.out.2.2.2.1 rfl ⟨wr.heap.size, 0, none⟩ 1 (a2[i].toNat : Int) rfl (by simp) HN1.out.2.2.2.2 ?_; intro g' cp' w' hM' hB'; have HM' := am hM'; have HB' := am hB'; clear hM' hB'))
       go_roundg (a2.size - (i + 1))
       case measure => have := HN.out; have := of_decide_eq_true hi1b; omega
       case rel =>
        have h1 := HN1.out
        have e : (a2[i].toNat : Int) = (((X.getD i 0) : UInt8).toNat : Int) := by rw [← HIB.out hi1n, getElem!_pos a2 i hi1n]
        refine ⟨i + 1, n + 1, g', cp', by go_num, rfl, ⟨h1.1, h1.2.1, Nat.le_refl _, h1.2.2.1⟩, ⟨?_⟩, ⟨(HW.out.alloc HW.out.size _).trans HB'.out⟩⟩
        have h2 := HM'.out
        rw [← HLS.out]
        rw [e, show spec_l16Lay.toI (spec_l16Lay.lay (spec_l16Lay.pad B a) X a i) ++ [(((X.getD i 0) : UInt8).toNat : Int)] = spec_l16Lay.toI (spec_l16Lay.lay (spec_l16Lay.pad B a) X a i ++ [X.getD i 0]) from by simp [spec_l16Lay.toI]] at h2
        exact h2
     ·have h64b : decide (wrap64 ((a : Int) + (i : Int)) < 64) = false := decide_eq_false (by rw [HWR.out]; omega)
      have HE := am (show i = min a2.size (64 - a) ∧ (spec_l16Lay.toI (spec_l16Lay.lay (spec_l16Lay.pad B a) X a i)).length = n from by rw [spec_l16Lay.toI_length, hll]; omega)
      clear hn hPl hll htn
      go_wp2_with (first | ((with_reducible refine gate_dst (N := 51) rfl ?_); refine spec_l16Lay.MB.wstr rfl (.tmp 50) 48 9 5 rfl Try.underlying48 Try.underlying5 Try.underlying9 w.heap.size g cp n _ HM.out HE.out.2 rfl ?_))
      go_ret
      exact ⟨by rw [spec_l16Lay.str_toI, HE.out.1, HR.out] <;> rfl, HW.out⟩
    ·have hi1b : decide ((i : Int) < (a2.size : Int)) = false := decide_eq_false (by omega)
     have HE := am (show i = min a2.size (64 - a) ∧ (spec_l16Lay.toI (spec_l16Lay.lay (spec_l16Lay.pad B a) X a i)).length = n from by rw [spec_l16Lay.toI_length, hll]; omega)
     clear hn hPl hll htn
     go_wp2_with (first | ((with_reducible refine gate_dst (N := 51) rfl ?_); refine spec_l16Lay.MB.wstr rfl (.tmp 50) 48 9 5 rfl Try.underlying48 Try.underlying5 Try.underlying9 w.heap.size g cp n _ HM.out HE.out.2 rfl ?_))
     go_ret
     exact ⟨by rw [spec_l16Lay.str_toI, HE.out.1, HR.out] <;> rfl, HW.out⟩

/-! ### strings_Repeat: function 128 -/
open Go.Shelf Go.Lib in
shelf_lay Lays.n105 Nm 105 at Try as strings_Repeat_lays
open Go.Shelf Go.Lib in
theorem strings_Repeat.extra : Builder.Extra Try.prog strings_Repeat_lays_ren where
 sizeBuilder := by kernel_rfl
 liesBuilder := by kernel_rfl
 t5 := strings_Repeat_lays.t5
 a5 := strings_Repeat_lays.a5
 z5 := strings_Repeat_lays.z5
 v5 := strings_Repeat_lays.v5
 infoByte := by kernel_rfl
 cellsByte := by kernel_rfl
 sizeByte := by kernel_rfl
 neB5 := by decide
theorem strings_Repeat.num : strings_Repeat_lays_ren.f 105 = 128 := by kernel_rfl
def strings_Repeat.f (a0 : ByteArray) (a1 : Int) : Option (ByteArray) := if 0 ≤ a1 ∧ a0.size * a1.toNat ≤ 1000000 ∧ a1 ≤ 1000000 then some ⟨(Go.Lib.repeatL a0.data.toList a1.toNat).toArray⟩ else none
theorem strings_Repeat.calls (a0 : ByteArray) (a1 : Int) (r : ByteArray) (w : World) (h : strings_Repeat.f a0 a1 = some r) :
  Calls Try.prog 128 #[.string a0, .int .i64 a1] w fun e w' => e = .returned (.string r) ∧ Below w.heap.size w w' := by
 unfold strings_Repeat.f at h
 split at h
 ·rename_i hc
  obtain rfl := Option.some.inj h
  have h1 := Go.Proofs.Any.strings_Repeat strings_Repeat_lays strings_Repeat.extra a0 a1.toNat w (by omega) (by omega)
  rw [strings_Repeat.num, Int.toNat_of_nonneg hc.1] at h1
  exact h1
 ·cases h

end Go.Proofs.Ythphhklbliambaa.MFnOpSame
