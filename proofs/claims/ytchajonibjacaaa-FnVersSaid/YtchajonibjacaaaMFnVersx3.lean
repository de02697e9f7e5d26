-- Written by a program of this session (wip/tools/myprint.py) over the kit's print: it is not the kit's print.
import Derived.Test.YtchajonibjacaaaMFnVersx0
import Derived.Test.YtchajonibjacaaaMFnVersx1
import Derived.Test.YtchajonibjacaaaMFnVersx2
namespace Go.Proofs.Ytchajonibjacaaa.MFnVers
open Go.RowKit Go.Proofs.YtchajonibjacaaaW.PrintWords Go.Proofs.YtchajonibjacaaaW.PrintLast Go.Proofs.YtchajonibjacaaaW.PrintMore
attribute [local go_sem] max2_int min2_int max_two min_two max_three min_three max_four min_four   -- for this text's walks alone
set_option linter.unusedVariables false
set_option linter.unusedSimpArgs false

attribute [local go_sem high] eqA39
/-! ### spec_DrawVerLess: function 28 -/
def spec_DrawVerLess.f (l0 : List Int) : Option (Int × Int × Int × Int) := (spec_l00From.f l0).bind fun bt125 => ((spec_l00Src_pick.f bt125.1 bt125.2.1 bt125.2.2 4).bind fun bt129 => ((spec_l00Src_pick.f bt125.1 bt129.2.1 bt129.2.2 4).bind fun bt132 => ((spec_l00Src_pick.f bt125.1 bt132.2.1 bt132.2.2 4).bind fun bt136 => ((spec_l00Src_pick.f bt125.1 bt136.2.1 bt136.2.2 4).bind fun bt139 => (some (wrap64 (bt129.1 - 1), wrap64 (bt132.1 - 1), wrap64 (bt136.1 - 1), wrap64 (bt139.1 - 1)))))))
def spec_DrawVerLess.T3 : Bool × List (List Nat × List Nat) := (true, [([], []), ([], []), ([1], [1]), ([2], [2]), ([], []), ([4, 2], [4]), ([5], [5]), ([3, 6], [3, 6]), ([0, 5, 0], [0]), ([7, 8, 0, 1, 2, 3, 4, 5, 6, 7, 8], [7])])
def spec_DrawVerLess.B3 : List Nat := [0, 0, 2, 6, 0, 22, 54, 126, 55, 511]
theorem spec_DrawVerLess.tab3 : rtab .any (opsOf Try.f28 3) = spec_DrawVerLess.T3 := by kernel_rfl
theorem spec_DrawVerLess.bits3 : waitsOk spec_DrawVerLess.T3.2 spec_DrawVerLess.B3 = true := by kernel_rfl
set_option maxHeartbeats 8000000 in
set_option maxRecDepth 100000 in
theorem spec_DrawVerLess.calls (A0 : Option Addr) (c0 : Nat) (l0 : List Int) (r1 : Int) (r2 : Int) (r3 : Int) (r4 : Int) (w : World) (hr0 : Kd.C (Kd.int .u8) w A0 l0.length l0) (hc0 : l0.length ≤ c0) (h : spec_DrawVerLess.f l0 = some (r1, r2, r3, r4)) :
    Calls Try.prog 28 #[.slice A0 l0.length c0] w fun e w' => e = .returned (.tuple #[.agg #[.int .i64 r1, .int .i64 r2], .agg #[.int .i64 r3, .int .i64 r4]]) ∧ Below w.heap.size w w' := by
  have hu39 := Try.underlying39
  have HR0 := Aside0.mk hr0
  have HC0 := Aside0.mk hc0
  clear hr0 hc0
  have HB := Aside0.mk (Below.refl w.heap.size w)
  have H : ((spec_l00From.f l0).bind fun bt125 => ((spec_l00Src_pick.f bt125.1 bt125.2.1 bt125.2.2 4).bind fun bt129 => ((spec_l00Src_pick.f bt125.1 bt129.2.1 bt129.2.2 4).bind fun bt132 => ((spec_l00Src_pick.f bt125.1 bt132.2.1 bt132.2.2 4).bind fun bt136 => ((spec_l00Src_pick.f bt125.1 bt136.2.1 bt136.2.2 4).bind fun bt139 => (some (wrap64 (bt129.1 - 1), wrap64 (bt132.1 - 1), wrap64 (bt136.1 - 1), wrap64 (bt139.1 - 1)))))))) = some (r1, r2, r3, r4) := h
  clear h
  replace H := Option.bind_eq_some_iff.mp H
  obtain ⟨⟨t125, t126, t127⟩, A20, H⟩ := H
  replace H : ((spec_l00Src_pick.f t125 t126 t127 4).bind fun bt129 => ((spec_l00Src_pick.f t125 bt129.2.1 bt129.2.2 4).bind fun bt132 => ((spec_l00Src_pick.f t125 bt132.2.1 bt132.2.2 4).bind fun bt136 => ((spec_l00Src_pick.f t125 bt136.2.1 bt136.2.2 4).bind fun bt139 => (some (wrap64 (bt129.1 - 1), wrap64 (bt132.1 - 1), wrap64 (bt136.1 - 1), wrap64 (bt139.1 - 1))))))) = some (r1, r2, r3, r4) := H
  have A2 := Aside0.mk A20
  clear A20
  replace H := Option.bind_eq_some_iff.mp H
  obtain ⟨⟨t129, t130, t131⟩, A30, H⟩ := H
  replace H : ((spec_l00Src_pick.f t125 t130 t131 4).bind fun bt132 => ((spec_l00Src_pick.f t125 bt132.2.1 bt132.2.2 4).bind fun bt136 => ((spec_l00Src_pick.f t125 bt136.2.1 bt136.2.2 4).bind fun bt139 => (some (wrap64 (t129 - 1), wrap64 (bt132.1 - 1), wrap64 (bt136.1 - 1), wrap64 (bt139.1 - 1)))))) = some (r1, r2, r3, r4) := H
  have A3 := Aside0.mk A30
  clear A30
  replace H := Option.bind_eq_some_iff.mp H
  obtain ⟨⟨t132, t133, t134⟩, A40, H⟩ := H
  replace H : ((spec_l00Src_pick.f t125 t133 t134 4).bind fun bt136 => ((spec_l00Src_pick.f t125 bt136.2.1 bt136.2.2 4).bind fun bt139 => (some (wrap64 (t129 - 1), wrap64 (t132 - 1), wrap64 (bt136.1 - 1), wrap64 (bt139.1 - 1))))) = some (r1, r2, r3, r4) := H
  have A4 := Aside0.mk A40
  clear A40
  replace H := Option.bind_eq_some_iff.mp H
  obtain ⟨⟨t136, t137, t138⟩, A50, H⟩ := H
  replace H : ((spec_l00Src_pick.f t125 t137 t138 4).bind fun bt139 => (some (wrap64 (t129 - 1), wrap64 (t132 - 1), wrap64 (t136 - 1), wrap64 (bt139.1 - 1)))) = some (r1, r2, r3, r4) := H
  have A5 := Aside0.mk A50
  clear A50
  replace H := Option.bind_eq_some_iff.mp H
  obtain ⟨⟨t139, t140, t141⟩, A60, H⟩ := H
  replace H : (some (wrap64 (t129 - 1), wrap64 (t132 - 1), wrap64 (t136 - 1), wrap64 (t139 - 1))) = some (r1, r2, r3, r4) := H
  have A6 := Aside0.mk A60
  clear A60
  simp only [Option.some.injEq, Prod.mk.injEq] at H
  obtain ⟨rfl, rfl, rfl, rfl⟩ := H
  go_enter Try.func28, Try.ntmps28
  try go_wp2_with (first | ((with_reducible refine gate_dst (N := 2) rfl ?_); refine box_event ?hg (N := 2) ?hd (cs := #[.int .i64 0, .int .i64 0]) (t := 39) ?hr ?_; (case hd => rfl); (case hg => rfl); (case hr => first | (go_simp; done) | (go_simp; rfl)); intro gb123 hg w7 hbox hb; have n0_ := Aside0.mk (below_step (by repeat (first | (with_reducible first | exact HB.out | apply below_alloc | apply pw_below_drewN | apply below_drew1) | exact HB.out)) hb); have n1_ := Aside0.mk (hbox); have n2_ := Aside0.mk ((by rw [hg]; exact (below_size (by repeat (first | (with_reducible first | exact HB.out | apply below_alloc | apply pw_below_drewN | apply below_drew1) | exact HB.out))) : w.heap.size ≤ gb123)); have n3_ := Aside0.mk ((by rw [hg]; exact (below_size (by repeat (first | (with_reducible first | exact HB.out | apply below_alloc | apply pw_below_drewN | apply below_drew1) | exact HB.out))) : w.heap.size ≤ gb123)); clear HB; have HB := n0_; have BK123 := n1_; have GW123 := n2_; have GE123 := n3_; clear n0_ n1_ n2_ n3_; clear hb hbox hg) | ((with_reducible refine gate_dst (N := 3) rfl ?_); refine box_event ?hg (N := 3) ?hd (cs := #[.int .i64 0, .int .i64 0]) (t := 39) ?hr ?_; (case hd => rfl); (case hg => rfl); (case hr => first | (go_simp; done) | (go_simp; rfl)); intro gb124 hg w8 hbox hb; have n0_ := Aside0.mk (blk_below (g := gb123) (o := .cells #[.int .i64 0, .int .i64 0] 39 (0, 0)) (by (with_reducible repeat (first | refine blk_drewN ?_ _ | refine blk_drew ?_ | refine blk_alloc ?_ _)); exact BK123.out) hb); have n1_ := Aside0.mk (below_step (by repeat (first | (with_reducible first | exact HB.out | apply below_alloc | apply pw_below_drewN | apply below_drew1 | refine below_set ?_ GE123.out) | exact HB.out)) hb); have n2_ := Aside0.mk (hbox); have n3_ := Aside0.mk ((by rw [hg]; exact (below_size (by repeat (first | (with_reducible first | exact HB.out | apply below_alloc | apply pw_below_drewN | apply below_drew1 | refine below_set ?_ GE123.out) | exact HB.out))) : w.heap.size ≤ gb124)); have n4_ := Aside0.mk ((by rw [hg]; exact (below_size (by repeat (first | (with_reducible first | exact HB.out | apply below_alloc | apply pw_below_drewN | apply below_drew1 | refine below_set ?_ GE123.out) | exact HB.out))) : w.heap.size ≤ gb124)); have n5_ := Aside0.mk ((by rw [hg]; exact Nat.ne_of_lt (blk_lt (g := gb123) (o := .cells #[.int .i64 0, .int .i64 0] 39 (0, 0)) (by (with_reducible repeat (first | refine blk_drewN ?_ _ | refine blk_drew ?_ | refine blk_alloc ?_ _)); exact BK123.out)) : gb123 ≠ gb124)); have n6_ := Aside0.mk ((by rw [hg]; exact Nat.ne_of_gt (blk_lt (g := gb123) (o := .cells #[.int .i64 0, .int .i64 0] 39 (0, 0)) (by (with_reducible repeat (first | refine blk_drewN ?_ _ | refine blk_drew ?_ | refine blk_alloc ?_ _)); exact BK123.out)) : gb124 ≠ gb123)); clear BK123; clear HB; have BK123 := n0_; have HB := n1_; have BK124 := n2_; have GW124 := n3_; have GE124 := n4_; have NB123_124 := n5_; have NB124_123 := n6_; clear n0_ n1_ n2_ n3_ n4_ n5_ n6_; clear hb hbox hg) | ((with_reducible refine gate_callee (f := 50) rfl ?_); refine goesL_ (some 7) rfl rfl Try.func50 (by kernel_rfl) rfl #[.slice A0 l0.length c0] rfl (by (try simp only [List.map_toArray, List.map_cons, List.map_nil]); first | done | rfl | (simp only [List.length_drop, List.length_take]; rfl)) ?_; (with_reducible refine (spec_l00From.calls _ _ l0 t125 t126 t127 w _ ?side1 ?side2 ?side3 A2.out).mono ?_); (case side1 => repeat (first | (with_reducible first | exact HB.out | apply below_alloc | apply pw_below_drewN | apply below_drew1 | refine below_set ?_ GE123.out | refine below_set ?_ GE124.out) | exact HB.out)); (case side2 => exact HR0.out); (case side3 => exact HC0.out); rintro e w9 ⟨g128, rfl, hi, hb, hb2⟩; refine ⟨_, rfl, ?_⟩; have n0_ := Aside0.mk (blk_below (g := gb123) (o := .cells #[.int .i64 0, .int .i64 0] 39 (0, 0)) (by (with_reducible repeat (first | refine blk_drewN ?_ _ | refine blk_drew ?_ | refine blk_alloc ?_ _)); exact BK123.out) hb2); have n1_ := Aside0.mk (blk_below (g := gb124) (o := .cells #[.int .i64 0, .int .i64 0] 39 (0, 0)) (by (with_reducible repeat (first | refine blk_drewN ?_ _ | refine blk_drew ?_ | refine blk_alloc ?_ _)); exact BK124.out) hb2); have n2_ := Aside0.mk (hb); have n3_ := Aside0.mk (hi); have n4_ := Aside0.mk (IsS102.ne_blk hi (blk_below (g := gb123) (o := .cells #[.int .i64 0, .int .i64 0] 39 (0, 0)) (by (with_reducible repeat (first | refine blk_drewN ?_ _ | refine blk_drew ?_ | refine blk_alloc ?_ _)); exact BK123.out) hb2) (by decide)); have n5_ := Aside0.mk (Ne.symm (IsS102.ne_blk hi (blk_below (g := gb123) (o := .cells #[.int .i64 0, .int .i64 0] 39 (0, 0)) (by (with_reducible repeat (first | refine blk_drewN ?_ _ | refine blk_drew ?_ | refine blk_alloc ?_ _)); exact BK123.out) hb2) (by decide))); have n6_ := Aside0.mk (IsS102.ne_blk hi (blk_below (g := gb124) (o := .cells #[.int .i64 0, .int .i64 0] 39 (0, 0)) (by (with_reducible repeat (first | refine blk_drewN ?_ _ | refine blk_drew ?_ | refine blk_alloc ?_ _)); exact BK124.out) hb2) (by decide)); have n7_ := Aside0.mk (Ne.symm (IsS102.ne_blk hi (blk_below (g := gb124) (o := .cells #[.int .i64 0, .int .i64 0] 39 (0, 0)) (by (with_reducible repeat (first | refine blk_drewN ?_ _ | refine blk_drew ?_ | refine blk_alloc ?_ _)); exact BK124.out) hb2) (by decide))); clear BK123; clear BK124; clear HB; have BK123 := n0_; have BK124 := n1_; have HB := n2_; have HI128 := n3_; have NB128_123 := n4_; have NB123_128 := n5_; have NB128_124 := n6_; have NB124_128 := n7_; clear n0_ n1_ n2_ n3_ n4_ n5_ n6_ n7_; (try clear hb); (try clear hb2); (try clear hk); (try clear hi)) | ((with_reducible refine gate_callee (f := 51) rfl ?_); refine goesL_ (some 9) rfl rfl Try.func51 (by kernel_rfl) rfl #[.pointer (some ⟨g128, 0, none⟩), .int .i64 4] rfl (by (try simp only [List.map_toArray, List.map_cons, List.map_nil]); first | done | rfl | (simp only [List.length_drop, List.length_take]; rfl)) ?_; (with_reducible refine (spec_l00Src_pick.calls g128 t125 t126 t127 4 t129 t130 t131 w _ ?side1 ?side2 A3.out).mono ?_); (case side1 => repeat (first | (with_reducible first | exact HI128.out | apply IsS102.alloc | apply IsS102.drewN | apply IsS102.drew | apply IsS102.set_1 | apply IsS102.set_2 | refine IsS102.far ?_ NB128_123.out _ | refine IsS102.far ?_ NB128_124.out _) | exact HI128.out)); (case side2 => repeat (first | (with_reducible first | exact HB.out | apply below_alloc | apply pw_below_drewN | apply below_drew1 | refine below_set ?_ (IsS102.ge HI128.out) | refine below_set ?_ GE123.out | refine below_set ?_ GE124.out) | exact HB.out)); rintro e w10 ⟨rfl, hi, hb, hk⟩; refine ⟨_, rfl, ?_⟩; have n0_ := Aside0.mk (KeepBut.blk hk (g' := gb123) (o := .cells #[.int .i64 0, .int .i64 0] 39 (0, 0)) (by (with_reducible repeat (first | refine blk_drewN ?_ _ | refine blk_drew ?_ | refine blk_alloc ?_ _)); exact BK123.out) NB123_128.out (by simp)); have n1_ := Aside0.mk (KeepBut.blk hk (g' := gb124) (o := .cells #[.int .i64 0, .int .i64 0] 39 (0, 0)) (by (with_reducible repeat (first | refine blk_drewN ?_ _ | refine blk_drew ?_ | refine blk_alloc ?_ _)); exact BK124.out) NB124_128.out (by simp)); have n2_ := Aside0.mk (hb); have n3_ := Aside0.mk (hi); clear BK123; clear BK124; clear HB; clear HI128; have BK123 := n0_; have BK124 := n1_; have HB := n2_; have HI128 := n3_; clear n0_ n1_ n2_ n3_; (try clear hb); (try clear hb2); (try clear hk); (try clear hi)) | ((with_reducible refine gate_callee (f := 51) rfl ?_); refine goesL_ (some 12) rfl rfl Try.func51 (by kernel_rfl) rfl #[.pointer (some ⟨g128, 0, none⟩), .int .i64 4] rfl (by (try simp only [List.map_toArray, List.map_cons, List.map_nil]); first | done | rfl | (simp only [List.length_drop, List.length_take]; rfl)) ?_; (with_reducible refine (spec_l00Src_pick.calls g128 t125 t130 t131 4 t132 t133 t134 w _ ?side1 ?side2 A4.out).mono ?_); (case side1 => repeat (first | (with_reducible first | exact HI128.out | apply IsS102.alloc | apply IsS102.drewN | apply IsS102.drew | apply IsS102.set_1 | apply IsS102.set_2 | refine IsS102.far ?_ NB128_123.out _ | refine IsS102.far ?_ NB128_124.out _) | exact HI128.out)); (case side2 => repeat (first | (with_reducible first | exact HB.out | apply below_alloc | apply pw_below_drewN | apply below_drew1 | refine below_set ?_ (IsS102.ge HI128.out) | refine below_set ?_ GE123.out | refine below_set ?_ GE124.out) | exact HB.out)); rintro e w11 ⟨rfl, hi, hb, hk⟩; refine ⟨_, rfl, ?_⟩; have n0_ := Aside0.mk (KeepBut.blk hk (g' := gb123) (o := .cells #[.int .i64 0, .int .i64 0] 39 (0, 0)) (by (with_reducible repeat (first | refine blk_drewN ?_ _ | refine blk_drew ?_ | refine blk_alloc ?_ _)); exact BK123.out) NB123_128.out (by simp)); have n1_ := Aside0.mk (KeepBut.blk hk (g' := gb124) (o := .cells #[.int .i64 0, .int .i64 0] 39 (0, 0)) (by (with_reducible repeat (first | refine blk_drewN ?_ _ | refine blk_drew ?_ | refine blk_alloc ?_ _)); exact BK124.out) NB124_128.out (by simp)); have n2_ := Aside0.mk (hb); have n3_ := Aside0.mk (hi); clear BK123; clear BK124; clear HB; clear HI128; have BK123 := n0_; have BK124 := n1_; have HB := n2_; have HI128 := n3_; clear n0_ n1_ n2_ n3_; (try clear hb); (try clear hb2); (try clear hk); (try clear hi)) | ((with_reducible refine gate_dst (N := 5) rfl ?_); refine box_event ?hg (N := 5) ?hd (cs := #[.int .i64 0, .int .i64 0]) (t := 39) ?hr ?_; (case hd => rfl); (case hg => rfl); (case hr => first | (go_simp; done) | (go_simp; rfl)); intro gb135 hg w12 hbox hb; have n0_ := Aside0.mk (blk_below (g := gb123) (o := .cells #[.int .i64 0, .int .i64 0] 39 (0, 0)) (by (with_reducible repeat (first | refine blk_drewN ?_ _ | refine blk_drew ?_ | refine blk_alloc ?_ _)); exact BK123.out) hb); have n1_ := Aside0.mk (blk_below (g := gb124) (o := .cells #[.int .i64 0, .int .i64 0] 39 (0, 0)) (by (with_reducible repeat (first | refine blk_drewN ?_ _ | refine blk_drew ?_ | refine blk_alloc ?_ _)); exact BK124.out) hb); have n2_ := Aside0.mk (IsS102.below (by repeat (first | (with_reducible first | exact HI128.out | apply IsS102.alloc | apply IsS102.drewN | apply IsS102.drew | apply IsS102.set_1 | apply IsS102.set_2 | refine IsS102.far ?_ NB128_123.out _ | refine IsS102.far ?_ NB128_124.out _) | exact HI128.out)) hb); have n3_ := Aside0.mk (below_step (by repeat (first | (with_reducible first | exact HB.out | apply below_alloc | apply pw_below_drewN | apply below_drew1 | refine below_set ?_ (IsS102.ge HI128.out) | refine below_set ?_ GE123.out | refine below_set ?_ GE124.out) | exact HB.out)) hb); have n4_ := Aside0.mk (hbox); have n5_ := Aside0.mk ((by rw [hg]; exact (below_size (by repeat (first | (with_reducible first | exact HB.out | apply below_alloc | apply pw_below_drewN | apply below_drew1 | refine below_set ?_ (IsS102.ge HI128.out) | refine below_set ?_ GE123.out | refine below_set ?_ GE124.out) | exact HB.out))) : w.heap.size ≤ gb135)); have n6_ := Aside0.mk ((by rw [hg]; exact (below_size (by repeat (first | (with_reducible first | exact HB.out | apply below_alloc | apply pw_below_drewN | apply below_drew1 | refine below_set ?_ (IsS102.ge HI128.out) | refine below_set ?_ GE123.out | refine below_set ?_ GE124.out) | exact HB.out))) : w.heap.size ≤ gb135)); have n7_ := Aside0.mk ((by rw [hg]; exact Nat.ne_of_lt (blk_lt (g := gb123) (o := .cells #[.int .i64 0, .int .i64 0] 39 (0, 0)) (by (with_reducible repeat (first | refine blk_drewN ?_ _ | refine blk_drew ?_ | refine blk_alloc ?_ _)); exact BK123.out)) : gb123 ≠ gb135)); have n8_ := Aside0.mk ((by rw [hg]; exact Nat.ne_of_gt (blk_lt (g := gb123) (o := .cells #[.int .i64 0, .int .i64 0] 39 (0, 0)) (by (with_reducible repeat (first | refine blk_drewN ?_ _ | refine blk_drew ?_ | refine blk_alloc ?_ _)); exact BK123.out)) : gb135 ≠ gb123)); have n9_ := Aside0.mk ((by rw [hg]; exact Nat.ne_of_lt (blk_lt (g := gb124) (o := .cells #[.int .i64 0, .int .i64 0] 39 (0, 0)) (by (with_reducible repeat (first | refine blk_drewN ?_ _ | refine blk_drew ?_ | refine blk_alloc ?_ _)); exact BK124.out)) : gb124 ≠ gb135)); have n10_ := Aside0.mk ((by rw [hg]; exact Nat.ne_of_gt (blk_lt (g := gb124) (o := .cells #[.int .i64 0, .int .i64 0] 39 (0, 0)) (by (with_reducible repeat (first | refine blk_drewN ?_ _ | refine blk_drew ?_ | refine blk_alloc ?_ _)); exact BK124.out)) : gb135 ≠ gb124)); have n11_ := Aside0.mk ((by rw [hg]; exact Nat.ne_of_lt (IsS102.lt (show IsS102 w _ g128 t125 t133 t134 from by repeat (first | (with_reducible first | exact HI128.out | apply IsS102.alloc | apply IsS102.drewN | apply IsS102.drew | apply IsS102.set_1 | apply IsS102.set_2 | refine IsS102.far ?_ NB128_123.out _ | refine IsS102.far ?_ NB128_124.out _) | exact HI128.out))) : g128 ≠ gb135)); have n12_ := Aside0.mk ((by rw [hg]; exact Nat.ne_of_gt (IsS102.lt (show IsS102 w _ g128 t125 t133 t134 from by repeat (first | (with_reducible first | exact HI128.out | apply IsS102.alloc | apply IsS102.drewN | apply IsS102.drew | apply IsS102.set_1 | apply IsS102.set_2 | refine IsS102.far ?_ NB128_123.out _ | refine IsS102.far ?_ NB128_124.out _) | exact HI128.out))) : gb135 ≠ g128)); clear BK123; clear BK124; clear HI128; clear HB; have BK123 := n0_; have BK124 := n1_; have HI128 := n2_; have HB := n3_; have BK135 := n4_; have GW135 := n5_; have GE135 := n6_; have NB123_135 := n7_; have NB135_123 := n8_; have NB124_135 := n9_; have NB135_124 := n10_; have NB128_135 := n11_; have NB135_128 := n12_; clear n0_ n1_ n2_ n3_ n4_ n5_ n6_ n7_ n8_ n9_ n10_ n11_ n12_; clear hb hbox hg; have hnb13 := NB135_123.out; have hnc13 := NB123_135.out; have hnb14 := NB135_124.out; have hnc14 := NB124_135.out; have hnb15 := NB135_128.out; have hnc15 := NB128_135.out; have hcz16_0 : w12.cell? ⟨gb135, 0, none⟩ = some (.int .i64 0) := (blk_cell BK135.out 0).trans rfl; have hcz16_1 : w12.cell? ⟨gb135, 1, none⟩ = some (.int .i64 0) := (blk_cell BK135.out 1).trans rfl; have hfz16_0 := blk_frozen BK135.out 0; have hfz16_1 := blk_frozen BK135.out 1))
  have n0_ : Aside0 (((w12.setCell ⟨gb135, 0, none⟩ (.int .i64 (wrap64 (t129 - 1)))).setCell ⟨gb135, 1, none⟩ (.int .i64 (wrap64 (t132 - 1)))).heap[gb123]? = some (.cells #[.int .i64 0, .int .i64 0] 39 (0, 0))) := ⟨by (with_reducible repeat (first | refine blk_drewN ?_ _ | refine blk_drew ?_ | refine blk_alloc ?_ _)); refine blk_far ?_ NB123_135.out _; (with_reducible repeat (first | refine blk_drewN ?_ _ | refine blk_drew ?_ | refine blk_alloc ?_ _)); refine blk_far ?_ NB123_135.out _; (with_reducible repeat (first | refine blk_drewN ?_ _ | refine blk_drew ?_ | refine blk_alloc ?_ _)); exact BK123.out⟩
  have n1_ : Aside0 (((w12.setCell ⟨gb135, 0, none⟩ (.int .i64 (wrap64 (t129 - 1)))).setCell ⟨gb135, 1, none⟩ (.int .i64 (wrap64 (t132 - 1)))).heap[gb124]? = some (.cells #[.int .i64 0, .int .i64 0] 39 (0, 0))) := ⟨by (with_reducible repeat (first | refine blk_drewN ?_ _ | refine blk_drew ?_ | refine blk_alloc ?_ _)); refine blk_far ?_ NB124_135.out _; (with_reducible repeat (first | refine blk_drewN ?_ _ | refine blk_drew ?_ | refine blk_alloc ?_ _)); refine blk_far ?_ NB124_135.out _; (with_reducible repeat (first | refine blk_drewN ?_ _ | refine blk_drew ?_ | refine blk_alloc ?_ _)); exact BK124.out⟩
  have n2_ : Aside0 (((w12.setCell ⟨gb135, 0, none⟩ (.int .i64 (wrap64 (t129 - 1)))).setCell ⟨gb135, 1, none⟩ (.int .i64 (wrap64 (t132 - 1)))).heap[gb135]? = some (.cells #[.int .i64 (wrap64 (t129 - 1)), .int .i64 (wrap64 (t132 - 1))] 39 (0, 0))) := ⟨by (with_reducible repeat (first | refine blk_drewN ?_ _ | refine blk_drew ?_ | refine blk_alloc ?_ _)); refine blk_put (cs := #[.int .i64 (wrap64 (t129 - 1)), .int .i64 0]) ?_ 1 _ rfl; (with_reducible repeat (first | refine blk_drewN ?_ _ | refine blk_drew ?_ | refine blk_alloc ?_ _)); refine blk_put (cs := #[.int .i64 0, .int .i64 0]) ?_ 0 _ rfl; (with_reducible repeat (first | refine blk_drewN ?_ _ | refine blk_drew ?_ | refine blk_alloc ?_ _)); exact BK135.out⟩
  have n3_ : Aside0 (IsS102 w ((w12.setCell ⟨gb135, 0, none⟩ (.int .i64 (wrap64 (t129 - 1)))).setCell ⟨gb135, 1, none⟩ (.int .i64 (wrap64 (t132 - 1)))) g128 t125 t133 t134) := ⟨by repeat (first | (with_reducible first | exact HI128.out | apply IsS102.alloc | apply IsS102.drewN | apply IsS102.drew | apply IsS102.set_1 | apply IsS102.set_2 | refine IsS102.far ?_ NB128_123.out _ | refine IsS102.far ?_ NB128_124.out _ | refine IsS102.far ?_ NB128_135.out _) | exact HI128.out)⟩
  have n4_ : Aside0 (Below w.heap.size w ((w12.setCell ⟨gb135, 0, none⟩ (.int .i64 (wrap64 (t129 - 1)))).setCell ⟨gb135, 1, none⟩ (.int .i64 (wrap64 (t132 - 1))))) := ⟨by repeat (first | (with_reducible first | exact HB.out | apply below_alloc | apply pw_below_drewN | apply below_drew1 | refine below_set ?_ (IsS102.ge HI128.out) | refine below_set ?_ GE123.out | refine below_set ?_ GE124.out | refine below_set ?_ GE135.out) | exact HB.out)⟩
  (try clear BK123)
  (try clear BK124)
  (try clear BK135)
  (try clear HI128)
  (try clear HB)
  generalize ((w12.setCell ⟨gb135, 0, none⟩ (.int .i64 (wrap64 (t129 - 1)))).setCell ⟨gb135, 1, none⟩ (.int .i64 (wrap64 (t132 - 1)))) = w17 at n0_ n1_ n2_ n3_ n4_ ⊢
  have BK123 := n0_
  have BK124 := n1_
  have BK135 := n2_
  have HI128 := n3_
  have HB := n4_
  clear n0_ n1_ n2_ n3_ n4_
  have n0_ := Aside0.mk (blk_drew BK123.out)
  have n1_ := Aside0.mk (blk_drew BK124.out)
  have n2_ := Aside0.mk (blk_drew BK135.out)
  have n3_ := Aside0.mk (IsS102.drew HI128.out)
  have n4_ := Aside0.mk (below_drew1 HB.out)
  clear BK123
  clear BK124
  clear BK135
  clear HI128
  clear HB
  have BK123 := n0_
  have BK124 := n1_
  have BK135 := n2_
  have HI128 := n3_
  have HB := n4_
  clear n0_ n1_ n2_ n3_ n4_
  refine start_ (n := 10) (S := fun w' => w'.cell? ⟨gb135, 0, none⟩ = some (.int .i64 (wrap64 (t129 - 1))) ∧ w'.cell? ⟨gb135, 1, none⟩ = some (.int .i64 (wrap64 (t132 - 1)))) (ds := []) #[false, false, false, false, false, false, false, false, false, false] (by kernel_rfl) rfl rfl ⟨(blk_cell BK135.out 0).trans rfl, (blk_cell BK135.out 1).trans rfl⟩ (fun hHeld => ?_); refine with_tabW spec_DrawVerLess.tab3 spec_DrawVerLess.bits3 (fun HT_ HW_ => ?_)
  generalize w17.drew = w18 at BK123 BK124 BK135 HI128 HB hHeld ⊢
  refine pure_ (i := 1) (N := some 16) (v := ?_) (a' := ?_) #[false, true, false, false, false, false, false, false, false, false] rfl rfl (any_of HT_.out (by kernel_rfl)) (fun _ _ _ h => h) (Or.inl ⟨by rfl, ?_⟩) ?_ ?_
  rotate_left
  · intro w'
    go_simp
    with_reducible rfl
  rotate_left
  · simp only [Act.put, List.setIfInBounds_toArray, List.set_cons_zero, List.set_cons_succ, i64_w, i32_w]
    rfl
  refine pure_ (i := 4) (N := some 19) (v := ?_) (a' := ?_) #[false, true, false, false, true, false, false, false, false, false] rfl rfl (any_of HT_.out (by kernel_rfl)) (fun _ _ _ h => h) (Or.inl ⟨by rfl, ?_⟩) ?_ ?_
  rotate_left
  · intro w'
    go_simp
    with_reducible rfl
  rotate_left
  · simp only [Act.put, List.setIfInBounds_toArray, List.set_cons_zero, List.set_cons_succ, i64_w, i32_w]
    rfl
  refine take_ (i := 0) (N := some 15) (v := ?_) (a' := ?_) #[true, true, false, false, true, false, false, false, false, false] rfl rfl (take_ofW HT_.out HW_.out (by kernel_rfl)) (fun _ _ _ h => h) (Or.inl ⟨by rfl, ?_⟩) hHeld ?_ ?_
  rotate_left
  · rintro w' ⟨s0, s1⟩
    go_simp
    with_reducible rfl
  rotate_left
  · simp only [Act.put, List.setIfInBounds_toArray, List.set_cons_zero, List.set_cons_succ, i64_w, i32_w]
    rfl
  refine one_ (i := 2) (N := some 17) #[true, true, true, false, true, false, false, false, false, false] rfl rfl (one_of HT_.out (by kernel_rfl)) (by decide) (fun K hK => ?_)
  refine goes_ Try.func51 (by kernel_rfl) rfl #[.pointer (some ⟨g128, 0, none⟩), .int .i64 4] (by rfl) rfl rfl (by (try simp only [List.map_toArray, List.map_cons, List.map_nil]); first | done | rfl | (simp only [List.length_drop, List.length_take]; rfl)) ?_
  with_reducible refine (spec_l00Src_pick.calls g128 t125 t133 t134 4 t136 t137 t138 w _ ?side1 ?side2 A5.out).mono ?_
  (case side1 => repeat (first | (with_reducible first | exact HI128.out | apply IsS102.alloc | apply IsS102.drewN | apply IsS102.drew | apply IsS102.set_1 | apply IsS102.set_2 | refine IsS102.far ?_ NB128_123.out _ | refine IsS102.far ?_ NB128_124.out _ | refine IsS102.far ?_ NB128_135.out _) | exact HI128.out))
  (case side2 => repeat (first | (with_reducible first | exact HB.out | apply below_alloc | apply pw_below_drewN | apply below_drew1 | refine below_set ?_ (IsS102.ge HI128.out) | refine below_set ?_ GE123.out | refine below_set ?_ GE124.out | refine below_set ?_ GE135.out) | exact HB.out))
  rintro e w19 ⟨rfl, hi, hb, hk⟩
  refine ⟨_, rfl, ?_⟩
  have n0_ := Aside0.mk (KeepBut.blk hk (g' := gb123) (o := .cells #[.int .i64 0, .int .i64 0] 39 (0, 0)) (by (with_reducible repeat (first | refine blk_drewN ?_ _ | refine blk_drew ?_ | refine blk_alloc ?_ _)); exact BK123.out) NB123_128.out (by simp))
  have n1_ := Aside0.mk (KeepBut.blk hk (g' := gb124) (o := .cells #[.int .i64 0, .int .i64 0] 39 (0, 0)) (by (with_reducible repeat (first | refine blk_drewN ?_ _ | refine blk_drew ?_ | refine blk_alloc ?_ _)); exact BK124.out) NB124_128.out (by simp))
  have n2_ := Aside0.mk (KeepBut.blk hk (g' := gb135) (o := .cells #[.int .i64 (wrap64 (t129 - 1)), .int .i64 (wrap64 (t132 - 1))] 39 (0, 0)) (by (with_reducible repeat (first | refine blk_drewN ?_ _ | refine blk_drew ?_ | refine blk_alloc ?_ _)); exact BK135.out) NB135_128.out (by simp))
  have n3_ := Aside0.mk (hb)
  have n4_ := Aside0.mk (hi)
  clear BK123
  clear BK124
  clear BK135
  clear HB
  clear HI128
  have BK123 := n0_
  have BK124 := n1_
  have BK135 := n2_
  have HB := n3_
  have HI128 := n4_
  clear n0_ n1_ n2_ n3_ n4_
  (try clear hb)
  (try clear hb2)
  (try clear hk)
  (try clear hi)
  refine hK.out _ _ ⟨(blk_cell BK135.out 0).trans rfl, (blk_cell BK135.out 1).trans rfl⟩ (fun hHeld => ?_)
  clear hK K
  refine norm_ (a' := ?_) ?_ ?_
  rotate_left
  · show Act.put _ (some 17) _ = _
    simp only [Act.put, List.setIfInBounds_toArray, List.set_cons_zero, List.set_cons_succ, i64_w, i32_w]
    rfl
  refine pure_ (i := 3) (N := some 18) (v := ?_) (a' := ?_) #[true, true, true, true, true, false, false, false, false, false] rfl rfl (any_of HT_.out (by kernel_rfl)) (fun _ _ _ h => h) (Or.inl ⟨by rfl, ?_⟩) ?_ ?_
  rotate_left
  · intro w'
    go_simp
    with_reducible rfl
  rotate_left
  · simp only [Act.put, List.setIfInBounds_toArray, List.set_cons_zero, List.set_cons_succ, i64_w, i32_w]
    rfl
  refine one_ (i := 5) (N := some 20) #[true, true, true, true, true, true, false, false, false, false] rfl rfl (one_of HT_.out (by kernel_rfl)) (by decide) (fun K hK => ?_)
  refine goes_ Try.func51 (by kernel_rfl) rfl #[.pointer (some ⟨g128, 0, none⟩), .int .i64 4] (by rfl) rfl rfl (by (try simp only [List.map_toArray, List.map_cons, List.map_nil]); first | done | rfl | (simp only [List.length_drop, List.length_take]; rfl)) ?_
  with_reducible refine (spec_l00Src_pick.calls g128 t125 t137 t138 4 t139 t140 t141 w _ ?side1 ?side2 A6.out).mono ?_
  (case side1 => repeat (first | (with_reducible first | exact HI128.out | apply IsS102.alloc | apply IsS102.drewN | apply IsS102.drew | apply IsS102.set_1 | apply IsS102.set_2 | refine IsS102.far ?_ NB128_123.out _ | refine IsS102.far ?_ NB128_124.out _ | refine IsS102.far ?_ NB128_135.out _) | exact HI128.out))
  (case side2 => repeat (first | (with_reducible first | exact HB.out | apply below_alloc | apply pw_below_drewN | apply below_drew1 | refine below_set ?_ (IsS102.ge HI128.out) | refine below_set ?_ GE123.out | refine below_set ?_ GE124.out | refine below_set ?_ GE135.out) | exact HB.out))
  rintro e w20 ⟨rfl, hi, hb, hk⟩
  refine ⟨_, rfl, ?_⟩
  have n0_ := Aside0.mk (KeepBut.blk hk (g' := gb123) (o := .cells #[.int .i64 0, .int .i64 0] 39 (0, 0)) (by (with_reducible repeat (first | refine blk_drewN ?_ _ | refine blk_drew ?_ | refine blk_alloc ?_ _)); exact BK123.out) NB123_128.out (by simp))
  have n1_ := Aside0.mk (KeepBut.blk hk (g' := gb124) (o := .cells #[.int .i64 0, .int .i64 0] 39 (0, 0)) (by (with_reducible repeat (first | refine blk_drewN ?_ _ | refine blk_drew ?_ | refine blk_alloc ?_ _)); exact BK124.out) NB124_128.out (by simp))
  have n2_ := Aside0.mk (KeepBut.blk hk (g' := gb135) (o := .cells #[.int .i64 (wrap64 (t129 - 1)), .int .i64 (wrap64 (t132 - 1))] 39 (0, 0)) (by (with_reducible repeat (first | refine blk_drewN ?_ _ | refine blk_drew ?_ | refine blk_alloc ?_ _)); exact BK135.out) NB135_128.out (by simp))
  have n3_ := Aside0.mk (hb)
  have n4_ := Aside0.mk (hi)
  clear BK123
  clear BK124
  clear BK135
  clear HB
  clear HI128
  have BK123 := n0_
  have BK124 := n1_
  have BK135 := n2_
  have HB := n3_
  have HI128 := n4_
  clear n0_ n1_ n2_ n3_ n4_
  (try clear hb)
  (try clear hb2)
  (try clear hk)
  (try clear hi)
  refine hK.out _ _ ⟨(blk_cell BK135.out 0).trans rfl, (blk_cell BK135.out 1).trans rfl⟩ (fun hHeld => ?_)
  clear hK K
  refine norm_ (a' := ?_) ?_ ?_
  rotate_left
  · show Act.put _ (some 20) _ = _
    simp only [Act.put, List.setIfInBounds_toArray, List.set_cons_zero, List.set_cons_succ, i64_w, i32_w]
    rfl
  refine pure_ (i := 6) (N := some 21) (v := ?_) (a' := ?_) #[true, true, true, true, true, true, true, false, false, false] rfl rfl (any_of HT_.out (by kernel_rfl)) (fun _ _ _ h => h) (Or.inl ⟨by rfl, ?_⟩) ?_ ?_
  rotate_left
  · intro w'
    go_simp
    with_reducible rfl
  rotate_left
  · simp only [Act.put, List.setIfInBounds_toArray, List.set_cons_zero, List.set_cons_succ, i64_w, i32_w]
    rfl
  refine pure_ (i := 7) (N := some 22) (v := ?_) (a' := ?_) #[true, true, true, true, true, true, true, true, false, false] rfl rfl (any_of HT_.out (by kernel_rfl)) (fun _ _ _ h => h) (Or.inl ⟨by rfl, ?_⟩) ?_ ?_
  rotate_left
  · intro w'
    go_simp
    with_reducible rfl
  rotate_left
  · simp only [Act.put, List.setIfInBounds_toArray, List.set_cons_zero, List.set_cons_succ, i64_w, i32_w]
    rfl
  refine one_ (i := 8) (N := none) #[true, true, true, true, true, true, true, true, true, false] rfl rfl (one_of HT_.out (by kernel_rfl)) (by decide) (fun K hK => ?_)
  have hs21 : w20.cell? ⟨gb123, 0, none⟩ = some (.int .i64 0) := (blk_cell BK123.out 0).trans rfl
  have hfs21 := blk_frozen BK123.out 0
  have hns21_1 := NB124_123.out
  have hns21_2 := NB135_123.out
  have hms21_1 := NB123_124.out
  have hms21_2 := NB123_135.out
  have hs22 : w20.cell? ⟨gb123, 1, none⟩ = some (.int .i64 0) := (blk_cell BK123.out 1).trans rfl
  have hfs22 := blk_frozen BK123.out 1
  have hns22_1 := NB124_123.out
  have hns22_2 := NB135_123.out
  have hms22_1 := NB123_124.out
  have hms22_2 := NB123_135.out
  refine skip_ (w1 := ?_) (by rfl) rfl ?_ ?_
  rotate_left
  · go_simp
    rfl
  refine hK.out _ _ ⟨((cell_far (p := ⟨gb123, _, none⟩) NB135_123.out _).trans (((cell_far (p := ⟨gb123, _, none⟩) NB135_123.out _).trans (hHeld.1)))), ((cell_far (p := ⟨gb123, _, none⟩) NB135_123.out _).trans (((cell_far (p := ⟨gb123, _, none⟩) NB135_123.out _).trans (hHeld.2))))⟩ (fun hHeld => ?_)
  clear hK K
  refine one_ (i := 9) (N := none) #[true, true, true, true, true, true, true, true, true, true] rfl rfl (one_of HT_.out (by kernel_rfl)) (by decide) (fun K hK => ?_)
  have hs23 : w20.cell? ⟨gb124, 0, none⟩ = some (.int .i64 0) := (blk_cell BK124.out 0).trans rfl
  have hfs23 := blk_frozen BK124.out 0
  have hns23_0 := NB123_124.out
  have hns23_2 := NB135_124.out
  have hms23_0 := NB124_123.out
  have hms23_2 := NB124_135.out
  have hs24 : w20.cell? ⟨gb124, 1, none⟩ = some (.int .i64 0) := (blk_cell BK124.out 1).trans rfl
  have hfs24 := blk_frozen BK124.out 1
  have hns24_0 := NB123_124.out
  have hns24_2 := NB135_124.out
  have hms24_0 := NB124_123.out
  have hms24_2 := NB124_135.out
  refine skip_ (w1 := ?_) (by rfl) rfl ?_ ?_
  rotate_left
  · go_simp
    rfl
  refine hK.out _ _ ⟨((cell_far (p := ⟨gb124, _, none⟩) NB135_124.out _).trans (((cell_far (p := ⟨gb124, _, none⟩) NB135_124.out _).trans (hHeld.1)))), ((cell_far (p := ⟨gb124, _, none⟩) NB135_124.out _).trans (((cell_far (p := ⟨gb124, _, none⟩) NB135_124.out _).trans (hHeld.2))))⟩ (fun hHeld => ?_)
  clear hK K
  refine done_ (done_of HT_.out (by kernel_rfl)) ?_
  try go_wp2
  refine bodyPost_ret (results_cc rfl _ _ gb123 gb124 39 39 #[.int .i64 (wrap64 (t129 - 1)), .int .i64 (wrap64 (t132 - 1))] #[.int .i64 (wrap64 (t136 - 1)), .int .i64 (wrap64 (t139 - 1))] (0, 0) (0, 0) _ _ rfl (by (with_reducible repeat (first | refine blk_drewN ?_ _ | refine blk_drew ?_ | refine blk_alloc ?_ _)); refine blk_far ?_ NB123_124.out _; (with_reducible repeat (first | refine blk_drewN ?_ _ | refine blk_drew ?_ | refine blk_alloc ?_ _)); refine blk_far ?_ NB123_124.out _; (with_reducible repeat (first | refine blk_drewN ?_ _ | refine blk_drew ?_ | refine blk_alloc ?_ _)); refine blk_put (cs := #[.int .i64 (wrap64 (t129 - 1)), .int .i64 0]) ?_ 1 _ rfl; (with_reducible repeat (first | refine blk_drewN ?_ _ | refine blk_drew ?_ | refine blk_alloc ?_ _)); refine blk_put (cs := #[.int .i64 0, .int .i64 0]) ?_ 0 _ rfl; (with_reducible repeat (first | refine blk_drewN ?_ _ | refine blk_drew ?_ | refine blk_alloc ?_ _)); exact BK123.out) Try.underlying39 rfl (by kernel_rfl) rfl (by (with_reducible repeat (first | refine blk_drewN ?_ _ | refine blk_drew ?_ | refine blk_alloc ?_ _)); refine blk_put (cs := #[.int .i64 (wrap64 (t136 - 1)), .int .i64 0]) ?_ 1 _ rfl; (with_reducible repeat (first | refine blk_drewN ?_ _ | refine blk_drew ?_ | refine blk_alloc ?_ _)); refine blk_put (cs := #[.int .i64 0, .int .i64 0]) ?_ 0 _ rfl; (with_reducible repeat (first | refine blk_drewN ?_ _ | refine blk_drew ?_ | refine blk_alloc ?_ _)); refine blk_far ?_ NB124_123.out _; (with_reducible repeat (first | refine blk_drewN ?_ _ | refine blk_drew ?_ | refine blk_alloc ?_ _)); refine blk_far ?_ NB124_123.out _; (with_reducible repeat (first | refine blk_drewN ?_ _ | refine blk_drew ?_ | refine blk_alloc ?_ _)); exact BK124.out) Try.underlying39 rfl (by kernel_rfl)) rfl ?_
  exact ⟨by first | rfl | (simp [errW_none, errW_some] <;> rfl) | (simp [*, errW_none, errW_some] <;> rfl), by repeat (first | (with_reducible first | exact HB.out | apply below_alloc | apply pw_below_drewN | apply below_drew1 | refine below_set ?_ (IsS102.ge HI128.out) | refine below_set ?_ GE123.out | refine below_set ?_ GE124.out | refine below_set ?_ GE135.out) | exact HB.out)⟩

/-! ### laws_FnVers: function 8 -/
def laws_FnVers.j0 : Nat → Bool → Int → Int → Int → Int → Option (Bool)
  | 0, _, _, _, _, _ => none
  | k + 1, x35, x148000, x148001, x149000, x149001 => if x35 = true then (some false) else (if (x148000 == x149000 && (x148001 == x149001)) = true then ((impl_VerLess.f k x148000 x148001 x149000 x149001).bind fun t158 => (some (!t158))) else ((impl_VerLess.f k x148000 x148001 x149000 x149001).bind fun t159 => ((impl_VerLess.f k x149000 x149001 x148000 x148001).bind fun t160 => (some (t159 != t160)))))
def laws_FnVers.f (k : Nat) (l0 : List Int) (l1 : List Int) : Option (Bool) := (laws_b10Long.f l0 l1).bind fun t142 => (if t142 = true then (some true) else ((spec_DrawVerLess.f l0).bind fun bt143 => ((spec_DrawVerLess.f l1).bind fun bt149 => ((impl_VerLess.f k bt143.1 bt143.2.1 bt143.2.2.1 bt143.2.2.2).bind fun t155 => (if t155 = true then ((impl_VerLess.f k bt143.2.2.1 bt143.2.2.2 bt149.1 bt149.2.1).bind fun t156 => (if t156 = true then ((impl_VerLess.f k bt143.1 bt143.2.1 bt149.1 bt149.2.1).bind fun t157 => (laws_FnVers.j0 k (!t157) bt143.1 bt143.2.1 bt143.2.2.1 bt143.2.2.2)) else (laws_FnVers.j0 k false bt143.1 bt143.2.1 bt143.2.2.1 bt143.2.2.2))) else (laws_FnVers.j0 k false bt143.1 bt143.2.1 bt143.2.2.1 bt143.2.2.2))))))
theorem laws_FnVers.mono_l : ∀ k, (∀ y0 y1 y2 y3 y4, LeO (laws_FnVers.j0 k y0 y1 y2 y3 y4) (laws_FnVers.j0 (k + 1) y0 y1 y2 y3 y4))
  | 0 => fun _ _ _ _ _ r h => by simp [laws_FnVers.j0] at h
  | k + 1 => by
    have ih0 := laws_FnVers.mono_l k
    · intro y0 y1 y2 y3 y4
      unfold laws_FnVers.j0
      repeat' first
      | (with_reducible exact ih0 _ _ _ _ _)
      | (with_reducible exact impl_VerLess.mono _ _ _ _ _)
      | (with_reducible exact LeO.refl _)
      | (with_reducible exact LeO.none _)
      | (with_reducible refine LeO.ite ?_ ?_)
      | (with_reducible refine LeO.bind ?_ (fun _ => ?_))
      | exact ih0 _ _ _ _ _
      | exact impl_VerLess.mono _ _ _ _ _
      | exact LeO.none _
      | refine LeO.ite ?_ ?_
      | refine LeO.bind ?_ (fun _ => ?_)
theorem laws_FnVers.mono : ∀ a0 a1 k, LeO (laws_FnVers.f k a0 a1) (laws_FnVers.f (k + 1) a0 a1) := by
  intro a0 a1 k
  have ih0 := laws_FnVers.mono_l k
  unfold laws_FnVers.f
  repeat' first
      | (with_reducible exact ih0 _ _ _ _ _)
      | (with_reducible exact impl_VerLess.mono _ _ _ _ _)
      | (with_reducible exact LeO.refl _)
      | (with_reducible exact LeO.none _)
      | (with_reducible refine LeO.ite ?_ ?_)
      | (with_reducible refine LeO.bind ?_ (fun _ => ?_))
      | exact ih0 _ _ _ _ _
      | exact impl_VerLess.mono _ _ _ _ _
      | exact LeO.none _
      | refine LeO.ite ?_ ?_
      | refine LeO.bind ?_ (fun _ => ?_)
def laws_FnVers.T9 : Bool × List (List Nat × List Nat) := (true, [([], []), ([], []), ([0, 1], [0, 1]), ([], []), ([], []), ([3, 4, 2], [3, 4]), ([2, 5], [2, 5]), ([6, 5, 0, 1, 2, 3, 4, 5, 6], [6])])
def laws_FnVers.B9 : List Nat := [0, 0, 3, 0, 0, 31, 63, 127]
theorem laws_FnVers.tab9 : rtab .any (opsOf Try.f8 9) = laws_FnVers.T9 := by kernel_rfl
theorem laws_FnVers.bits9 : waitsOk laws_FnVers.T9.2 laws_FnVers.B9 = true := by kernel_rfl
set_option maxHeartbeats 8000000 in
set_option maxRecDepth 100000 in
theorem laws_FnVers.calls (k : Nat) (A0 : Option Addr) (c0 : Nat) (l0 : List Int) (A1 : Option Addr) (c1 : Nat) (l1 : List Int) (r : Bool) (w : World) (hr0 : Kd.C (Kd.int .u8) w A0 l0.length l0) (hc0 : l0.length ≤ c0) (hr1 : Kd.C (Kd.int .u8) w A1 l1.length l1) (hc1 : l1.length ≤ c1) (h : laws_FnVers.f k l0 l1 = some r) :
    Calls Try.prog 8 #[.slice A0 l0.length c0, .slice A1 l1.length c1] w fun e w' => e = .returned (.bool r) ∧ Below w.heap.size w w' := by
  have hu39 := Try.underlying39
  have HR0 := Aside0.mk hr0
  have HC0 := Aside0.mk hc0
  clear hr0 hc0
  have HR1 := Aside0.mk hr1
  have HC1 := Aside0.mk hc1
  clear hr1 hc1
  have HB := Aside0.mk (Below.refl w.heap.size w)
  have H : ((laws_b10Long.f l0 l1).bind fun t142 => (if t142 = true then (some true) else ((spec_DrawVerLess.f l0).bind fun bt143 => ((spec_DrawVerLess.f l1).bind fun bt149 => ((impl_VerLess.f k bt143.1 bt143.2.1 bt143.2.2.1 bt143.2.2.2).bind fun t155 => (if t155 = true then ((impl_VerLess.f k bt143.2.2.1 bt143.2.2.2 bt149.1 bt149.2.1).bind fun t156 => (if t156 = true then ((impl_VerLess.f k bt143.1 bt143.2.1 bt149.1 bt149.2.1).bind fun t157 => (laws_FnVers.j0 k (!t157) bt143.1 bt143.2.1 bt143.2.2.1 bt143.2.2.2)) else (laws_FnVers.j0 k false bt143.1 bt143.2.1 bt143.2.2.1 bt143.2.2.2))) else (laws_FnVers.j0 k false bt143.1 bt143.2.1 bt143.2.2.1 bt143.2.2.2))))))) = some r := h
  clear h
  replace H := Option.bind_eq_some_iff.mp H
  obtain ⟨t142, A30, H⟩ := H
  replace H : (if t142 = true then (some true) else ((spec_DrawVerLess.f l0).bind fun bt143 => ((spec_DrawVerLess.f l1).bind fun bt149 => ((impl_VerLess.f k bt143.1 bt143.2.1 bt143.2.2.1 bt143.2.2.2).bind fun t155 => (if t155 = true then ((impl_VerLess.f k bt143.2.2.1 bt143.2.2.2 bt149.1 bt149.2.1).bind fun t156 => (if t156 = true then ((impl_VerLess.f k bt143.1 bt143.2.1 bt149.1 bt149.2.1).bind fun t157 => (laws_FnVers.j0 k (!t157) bt143.1 bt143.2.1 bt143.2.2.1 bt143.2.2.2)) else (laws_FnVers.j0 k false bt143.1 bt143.2.1 bt143.2.2.1 bt143.2.2.2))) else (laws_FnVers.j0 k false bt143.1 bt143.2.1 bt143.2.2.1 bt143.2.2.2)))))) = some r := H
  have A3 := Aside0.mk A30
  clear A30
  by_cases c4 : t142 = true
  · subst c4
    have H1 : (some true) = some r := by rw [if_pos rfl] at H; exact H
    clear H
    have H := H1
    clear H1
    obtain rfl := Option.some.inj H
    go_enter Try.func8, Try.ntmps8
    go_wp2_with (first | ((with_reducible refine gate_callee (f := 27) rfl ?_); refine goesL_ (some 11) rfl rfl Try.func27 (by kernel_rfl) rfl #[.slice A0 l0.length c0, .slice A1 l1.length c1] rfl (by (try simp only [List.map_toArray, List.map_cons, List.map_nil]); first | done | rfl | (simp only [List.length_drop, List.length_take]; rfl)) ?_; (with_reducible refine (laws_b10Long.calls _ _ l0 _ _ l1 true _ ?side1 ?side2 ?side3 ?side4 A3.out).mono ?_); (case side1 => repeat (first | exact HR0.out | (with_reducible refine Kd.C_alloc ?_ _) | (with_reducible refine Kd.C_drewN ?_ _) | (with_reducible refine Kd.C_drew ?_))); (case side2 => exact HC0.out); (case side3 => repeat (first | exact HR1.out | (with_reducible refine Kd.C_alloc ?_ _) | (with_reducible refine Kd.C_drewN ?_ _) | (with_reducible refine Kd.C_drew ?_))); (case side4 => exact HC1.out); rintro e w' ⟨rfl, ⟨nd, rfl⟩⟩; refine ⟨_, rfl, ?_⟩))
    go_ret
    exact ⟨by first | rfl | (simp [errW_none, errW_some] <;> rfl) | (simp [*, errW_none, errW_some] <;> rfl), by repeat (first | (with_reducible first | exact HB.out | apply below_alloc | apply pw_below_drewN | apply below_drew1) | exact HB.out)⟩
  · replace c4 := Bool.eq_false_iff.mpr c4
    subst c4
    have H1 : ((spec_DrawVerLess.f l0).bind fun bt143 => ((spec_DrawVerLess.f l1).bind fun bt149 => ((impl_VerLess.f k bt143.1 bt143.2.1 bt143.2.2.1 bt143.2.2.2).bind fun t155 => (if t155 = true then ((impl_VerLess.f k bt143.2.2.1 bt143.2.2.2 bt149.1 bt149.2.1).bind fun t156 => (if t156 = true then ((impl_VerLess.f k bt143.1 bt143.2.1 bt149.1 bt149.2.1).bind fun t157 => (laws_FnVers.j0 k (!t157) bt143.1 bt143.2.1 bt143.2.2.1 bt143.2.2.2)) else (laws_FnVers.j0 k false bt143.1 bt143.2.1 bt143.2.2.1 bt143.2.2.2))) else (laws_FnVers.j0 k false bt143.1 bt143.2.1 bt143.2.2.1 bt143.2.2.2))))) = some r := by rw [if_neg (show ¬ (false = true) by decide)] at H; exact H
    clear H
    have H := H1
    clear H1
    replace H := Option.bind_eq_some_iff.mp H
    obtain ⟨⟨t143, t144, t145, t146⟩, A50, H⟩ := H
    replace H : ((spec_DrawVerLess.f l1).bind fun bt149 => ((impl_VerLess.f k t143 t144 t145 t146).bind fun t155 => (if t155 = true then ((impl_VerLess.f k t145 t146 bt149.1 bt149.2.1).bind fun t156 => (if t156 = true then ((impl_VerLess.f k t143 t144 bt149.1 bt149.2.1).bind fun t157 => (laws_FnVers.j0 k (!t157) t143 t144 t145 t146)) else (laws_FnVers.j0 k false t143 t144 t145 t146))) else (laws_FnVers.j0 k false t143 t144 t145 t146)))) = some r := H
    have A5 := Aside0.mk A50
    clear A50
    replace H := Option.bind_eq_some_iff.mp H
    obtain ⟨⟨t149, t150, t151, t152⟩, A60, H⟩ := H
    replace H : ((impl_VerLess.f k t143 t144 t145 t146).bind fun t155 => (if t155 = true then ((impl_VerLess.f k t145 t146 t149 t150).bind fun t156 => (if t156 = true then ((impl_VerLess.f k t143 t144 t149 t150).bind fun t157 => (laws_FnVers.j0 k (!t157) t143 t144 t145 t146)) else (laws_FnVers.j0 k false t143 t144 t145 t146))) else (laws_FnVers.j0 k false t143 t144 t145 t146))) = some r := H
    have A6 := Aside0.mk A60
    clear A60
    have HC7 := Aside0.mk H
    clear H
    go_enter Try.func8, Try.ntmps8
    go_upto_region 5 with (first | ((with_reducible refine gate_callee (f := 27) rfl ?_); refine goesL_ (some 11) rfl rfl Try.func27 (by kernel_rfl) rfl #[.slice A0 l0.length c0, .slice A1 l1.length c1] rfl (by (try simp only [List.map_toArray, List.map_cons, List.map_nil]); first | done | rfl | (simp only [List.length_drop, List.length_take]; rfl)) ?_; (with_reducible refine (laws_b10Long.calls _ _ l0 _ _ l1 false _ ?side1 ?side2 ?side3 ?side4 A3.out).mono ?_); (case side1 => repeat (first | exact HR0.out | (with_reducible refine Kd.C_alloc ?_ _) | (with_reducible refine Kd.C_drewN ?_ _) | (with_reducible refine Kd.C_drew ?_))); (case side2 => exact HC0.out); (case side3 => repeat (first | exact HR1.out | (with_reducible refine Kd.C_alloc ?_ _) | (with_reducible refine Kd.C_drewN ?_ _) | (with_reducible refine Kd.C_drew ?_))); (case side4 => exact HC1.out); rintro e w' ⟨rfl, ⟨nd, rfl⟩⟩; refine ⟨_, rfl, ?_⟩) | ((with_reducible refine gate_callee (f := 28) rfl ?_); refine goesL_ (some 14) rfl rfl Try.func28 (by kernel_rfl) rfl #[.slice A0 l0.length c0] rfl (by (try simp only [List.map_toArray, List.map_cons, List.map_nil]); first | done | rfl | (simp only [List.length_drop, List.length_take]; rfl)) ?_; (with_reducible refine (spec_DrawVerLess.calls _ _ l0 t143 t144 t145 t146 _ ?side1 ?side2 A5.out).mono ?_); (case side1 => repeat (first | exact HR0.out | (with_reducible refine Kd.C_alloc ?_ _) | (with_reducible refine Kd.C_drewN ?_ _) | (with_reducible refine Kd.C_drew ?_))); (case side2 => exact HC0.out); rintro e w8 ⟨rfl, hb⟩; refine ⟨_, rfl, ?_⟩; have n0_ := Aside0.mk (below_step (by repeat (first | (with_reducible first | exact HB.out | apply below_alloc | apply pw_below_drewN | apply below_drew1) | exact HB.out)) hb); clear HB; have HB := n0_; clear n0_; (try clear hb); (try clear hb2); (try clear hk); (try clear hi)) | ((with_reducible refine gate_dst (N := 5) rfl ?_); refine box_event ?hg (N := 5) ?hd (cs := #[.int .i64 0, .int .i64 0]) (t := 39) ?hr ?_; (case hd => rfl); (case hg => rfl); (case hr => first | (go_simp; done) | (go_simp; rfl)); intro gb147 hg w9 hbox hb; have n0_ := Aside0.mk (below_step (by repeat (first | (with_reducible first | exact HB.out | apply below_alloc | apply pw_below_drewN | apply below_drew1) | exact HB.out)) hb); have n1_ := Aside0.mk (hbox); have n2_ := Aside0.mk ((by rw [hg]; exact (below_size (by repeat (first | (with_reducible first | exact HB.out | apply below_alloc | apply pw_below_drewN | apply below_drew1) | exact HB.out))) : w.heap.size ≤ gb147)); have n3_ := Aside0.mk ((by rw [hg]; exact (below_size (by repeat (first | (with_reducible first | exact HB.out | apply below_alloc | apply pw_below_drewN | apply below_drew1) | exact HB.out))) : w.heap.size ≤ gb147)); clear HB; have HB := n0_; have BK147 := n1_; have GW147 := n2_; have GE147 := n3_; clear n0_ n1_ n2_ n3_; clear hb hbox hg) | ((with_reducible refine gate_dst (N := 6) rfl ?_); refine box_event ?hg (N := 6) ?hd (cs := #[.int .i64 0, .int .i64 0]) (t := 39) ?hr ?_; (case hd => rfl); (case hg => rfl); (case hr => first | (go_simp; done) | (go_simp; rfl)); intro gb148 hg w10 hbox hb; have n0_ := Aside0.mk (blk_below (g := gb147) (o := .cells #[.int .i64 0, .int .i64 0] 39 (0, 0)) (by (with_reducible repeat (first | refine blk_drewN ?_ _ | refine blk_drew ?_ | refine blk_alloc ?_ _)); exact BK147.out) hb); have n1_ := Aside0.mk (below_step (by repeat (first | (with_reducible first | exact HB.out | apply below_alloc | apply pw_below_drewN | apply below_drew1 | refine below_set ?_ GE147.out) | exact HB.out)) hb); have n2_ := Aside0.mk (hbox); have n3_ := Aside0.mk ((by rw [hg]; exact (below_size (by repeat (first | (with_reducible first | exact HB.out | apply below_alloc | apply pw_below_drewN | apply below_drew1 | refine below_set ?_ GE147.out) | exact HB.out))) : w.heap.size ≤ gb148)); have n4_ := Aside0.mk ((by rw [hg]; exact (below_size (by repeat (first | (with_reducible first | exact HB.out | apply below_alloc | apply pw_below_drewN | apply below_drew1 | refine below_set ?_ GE147.out) | exact HB.out))) : w.heap.size ≤ gb148)); have n5_ := Aside0.mk ((by rw [hg]; exact Nat.ne_of_lt (blk_lt (g := gb147) (o := .cells #[.int .i64 0, .int .i64 0] 39 (0, 0)) (by (with_reducible repeat (first | refine blk_drewN ?_ _ | refine blk_drew ?_ | refine blk_alloc ?_ _)); exact BK147.out)) : gb147 ≠ gb148)); have n6_ := Aside0.mk ((by rw [hg]; exact Nat.ne_of_gt (blk_lt (g := gb147) (o := .cells #[.int .i64 0, .int .i64 0] 39 (0, 0)) (by (with_reducible repeat (first | refine blk_drewN ?_ _ | refine blk_drew ?_ | refine blk_alloc ?_ _)); exact BK147.out)) : gb148 ≠ gb147)); clear BK147; clear HB; have BK147 := n0_; have HB := n1_; have BK148 := n2_; have GW148 := n3_; have GE148 := n4_; have NB147_148 := n5_; have NB148_147 := n6_; clear n0_ n1_ n2_ n3_ n4_ n5_ n6_; clear hb hbox hg; have hnb11 := NB147_148.out; have hnc11 := NB148_147.out; have hcz12_0 : w10.cell? ⟨gb147, 0, none⟩ = some (.int .i64 0) := (blk_cell BK147.out 0).trans rfl; have hcz12_1 : w10.cell? ⟨gb147, 1, none⟩ = some (.int .i64 0) := (blk_cell BK147.out 1).trans rfl; have hfz12_0 := blk_frozen BK147.out 0; have hfz12_1 := blk_frozen BK147.out 1; have hcz13_0 : w10.cell? ⟨gb148, 0, none⟩ = some (.int .i64 0) := (blk_cell BK148.out 0).trans rfl; have hcz13_1 : w10.cell? ⟨gb148, 1, none⟩ = some (.int .i64 0) := (blk_cell BK148.out 1).trans rfl; have hfz13_0 := blk_frozen BK148.out 0; have hfz13_1 := blk_frozen BK148.out 1) | ((with_reducible refine gate_callee (f := 28) rfl ?_); refine goesL_ (some 19) rfl rfl Try.func28 (by kernel_rfl) rfl #[.slice A1 l1.length c1] rfl (by (try simp only [List.map_toArray, List.map_cons, List.map_nil]); first | done | rfl | (simp only [List.length_drop, List.length_take]; rfl)) ?_; (with_reducible refine (spec_DrawVerLess.calls _ _ l1 t149 t150 t151 t152 _ ?side1 ?side2 A6.out).mono ?_); (case side1 => exact Kd.C_below HR1.out (by repeat (first | (with_reducible first | exact HB.out | apply below_alloc | apply pw_below_drewN | apply below_drew1 | refine below_set ?_ GE147.out | refine below_set ?_ GE148.out) | exact HB.out))); (case side2 => exact HC1.out); rintro e w14 ⟨rfl, hb⟩; refine ⟨_, rfl, ?_⟩; have n0_ := Aside0.mk (blk_below (g := gb147) (o := .cells #[.int .i64 t143, .int .i64 t144] 39 (0, 0)) (by (with_reducible repeat (first | refine blk_drewN ?_ _ | refine blk_drew ?_ | refine blk_alloc ?_ _)); refine blk_far ?_ NB147_148.out _; (with_reducible repeat (first | refine blk_drewN ?_ _ | refine blk_drew ?_ | refine blk_alloc ?_ _)); refine blk_far ?_ NB147_148.out _; (with_reducible repeat (first | refine blk_drewN ?_ _ | refine blk_drew ?_ | refine blk_alloc ?_ _)); refine blk_put (cs := #[.int .i64 t143, .int .i64 0]) ?_ 1 _ rfl; (with_reducible repeat (first | refine blk_drewN ?_ _ | refine blk_drew ?_ | refine blk_alloc ?_ _)); refine blk_put (cs := #[.int .i64 0, .int .i64 0]) ?_ 0 _ rfl; (with_reducible repeat (first | refine blk_drewN ?_ _ | refine blk_drew ?_ | refine blk_alloc ?_ _)); exact BK147.out) hb); have n1_ := Aside0.mk (blk_below (g := gb148) (o := .cells #[.int .i64 t145, .int .i64 t146] 39 (0, 0)) (by (with_reducible repeat (first | refine blk_drewN ?_ _ | refine blk_drew ?_ | refine blk_alloc ?_ _)); refine blk_put (cs := #[.int .i64 t145, .int .i64 0]) ?_ 1 _ rfl; (with_reducible repeat (first | refine blk_drewN ?_ _ | refine blk_drew ?_ | refine blk_alloc ?_ _)); refine blk_put (cs := #[.int .i64 0, .int .i64 0]) ?_ 0 _ rfl; (with_reducible repeat (first | refine blk_drewN ?_ _ | refine blk_drew ?_ | refine blk_alloc ?_ _)); refine blk_far ?_ NB148_147.out _; (with_reducible repeat (first | refine blk_drewN ?_ _ | refine blk_drew ?_ | refine blk_alloc ?_ _)); refine blk_far ?_ NB148_147.out _; (with_reducible repeat (first | refine blk_drewN ?_ _ | refine blk_drew ?_ | refine blk_alloc ?_ _)); exact BK148.out) hb); have n2_ := Aside0.mk (below_step (by repeat (first | (with_reducible first | exact HB.out | apply below_alloc | apply pw_below_drewN | apply below_drew1 | refine below_set ?_ GE147.out | refine below_set ?_ GE148.out) | exact HB.out)) hb); clear BK147; clear BK148; clear HB; have BK147 := n0_; have BK148 := n1_; have HB := n2_; clear n0_ n1_ n2_; (try clear hb); (try clear hb2); (try clear hk); (try clear hi)) | ((with_reducible refine gate_dst (N := 7) rfl ?_); refine box_event ?hg (N := 7) ?hd (cs := #[.int .i64 0, .int .i64 0]) (t := 39) ?hr ?_; (case hd => rfl); (case hg => rfl); (case hr => first | (go_simp; done) | (go_simp; rfl)); intro gb153 hg w15 hbox hb; have n0_ := Aside0.mk (blk_below (g := gb147) (o := .cells #[.int .i64 t143, .int .i64 t144] 39 (0, 0)) (by (with_reducible repeat (first | refine blk_drewN ?_ _ | refine blk_drew ?_ | refine blk_alloc ?_ _)); exact BK147.out) hb); have n1_ := Aside0.mk (blk_below (g := gb148) (o := .cells #[.int .i64 t145, .int .i64 t146] 39 (0, 0)) (by (with_reducible repeat (first | refine blk_drewN ?_ _ | refine blk_drew ?_ | refine blk_alloc ?_ _)); exact BK148.out) hb); have n2_ := Aside0.mk (below_step (by repeat (first | (with_reducible first | exact HB.out | apply below_alloc | apply pw_below_drewN | apply below_drew1 | refine below_set ?_ GE147.out | refine below_set ?_ GE148.out) | exact HB.out)) hb); have n3_ := Aside0.mk (hbox); have n4_ := Aside0.mk ((by rw [hg]; exact (below_size (by repeat (first | (with_reducible first | exact HB.out | apply below_alloc | apply pw_below_drewN | apply below_drew1 | refine below_set ?_ GE147.out | refine below_set ?_ GE148.out) | exact HB.out))) : w.heap.size ≤ gb153)); have n5_ := Aside0.mk ((by rw [hg]; exact (below_size (by repeat (first | (with_reducible first | exact HB.out | apply below_alloc | apply pw_below_drewN | apply below_drew1 | refine below_set ?_ GE147.out | refine below_set ?_ GE148.out) | exact HB.out))) : w.heap.size ≤ gb153)); have n6_ := Aside0.mk ((by rw [hg]; exact Nat.ne_of_lt (blk_lt (g := gb147) (o := .cells #[.int .i64 t143, .int .i64 t144] 39 (0, 0)) (by (with_reducible repeat (first | refine blk_drewN ?_ _ | refine blk_drew ?_ | refine blk_alloc ?_ _)); exact BK147.out)) : gb147 ≠ gb153)); have n7_ := Aside0.mk ((by rw [hg]; exact Nat.ne_of_gt (blk_lt (g := gb147) (o := .cells #[.int .i64 t143, .int .i64 t144] 39 (0, 0)) (by (with_reducible repeat (first | refine blk_drewN ?_ _ | refine blk_drew ?_ | refine blk_alloc ?_ _)); exact BK147.out)) : gb153 ≠ gb147)); have n8_ := Aside0.mk ((by rw [hg]; exact Nat.ne_of_lt (blk_lt (g := gb148) (o := .cells #[.int .i64 t145, .int .i64 t146] 39 (0, 0)) (by (with_reducible repeat (first | refine blk_drewN ?_ _ | refine blk_drew ?_ | refine blk_alloc ?_ _)); exact BK148.out)) : gb148 ≠ gb153)); have n9_ := Aside0.mk ((by rw [hg]; exact Nat.ne_of_gt (blk_lt (g := gb148) (o := .cells #[.int .i64 t145, .int .i64 t146] 39 (0, 0)) (by (with_reducible repeat (first | refine blk_drewN ?_ _ | refine blk_drew ?_ | refine blk_alloc ?_ _)); exact BK148.out)) : gb153 ≠ gb148)); clear BK147; clear BK148; clear HB; have BK147 := n0_; have BK148 := n1_; have HB := n2_; have BK153 := n3_; have GW153 := n4_; have GE153 := n5_; have NB147_153 := n6_; have NB153_147 := n7_; have NB148_153 := n8_; have NB153_148 := n9_; clear n0_ n1_ n2_ n3_ n4_ n5_ n6_ n7_ n8_ n9_; clear hb hbox hg) | ((with_reducible refine gate_dst (N := 8) rfl ?_); refine box_event ?hg (N := 8) ?hd (cs := #[.int .i64 0, .int .i64 0]) (t := 39) ?hr ?_; (case hd => rfl); (case hg => rfl); (case hr => first | (go_simp; done) | (go_simp; rfl)); intro gb154 hg w16 hbox hb; have n0_ := Aside0.mk (blk_below (g := gb147) (o := .cells #[.int .i64 t143, .int .i64 t144] 39 (0, 0)) (by (with_reducible repeat (first | refine blk_drewN ?_ _ | refine blk_drew ?_ | refine blk_alloc ?_ _)); exact BK147.out) hb); have n1_ := Aside0.mk (blk_below (g := gb148) (o := .cells #[.int .i64 t145, .int .i64 t146] 39 (0, 0)) (by (with_reducible repeat (first | refine blk_drewN ?_ _ | refine blk_drew ?_ | refine blk_alloc ?_ _)); exact BK148.out) hb); have n2_ := Aside0.mk (blk_below (g := gb153) (o := .cells #[.int .i64 0, .int .i64 0] 39 (0, 0)) (by (with_reducible repeat (first | refine blk_drewN ?_ _ | refine blk_drew ?_ | refine blk_alloc ?_ _)); exact BK153.out) hb); have n3_ := Aside0.mk (below_step (by repeat (first | (with_reducible first | exact HB.out | apply below_alloc | apply pw_below_drewN | apply below_drew1 | refine below_set ?_ GE147.out | refine below_set ?_ GE148.out | refine below_set ?_ GE153.out) | exact HB.out)) hb); have n4_ := Aside0.mk (hbox); have n5_ := Aside0.mk ((by rw [hg]; exact (below_size (by repeat (first | (with_reducible first | exact HB.out | apply below_alloc | apply pw_below_drewN | apply below_drew1 | refine below_set ?_ GE147.out | refine below_set ?_ GE148.out | refine below_set ?_ GE153.out) | exact HB.out))) : w.heap.size ≤ gb154)); have n6_ := Aside0.mk ((by rw [hg]; exact (below_size (by repeat (first | (with_reducible first | exact HB.out | apply below_alloc | apply pw_below_drewN | apply below_drew1 | refine below_set ?_ GE147.out | refine below_set ?_ GE148.out | refine below_set ?_ GE153.out) | exact HB.out))) : w.heap.size ≤ gb154)); have n7_ := Aside0.mk ((by rw [hg]; exact Nat.ne_of_lt (blk_lt (g := gb147) (o := .cells #[.int .i64 t143, .int .i64 t144] 39 (0, 0)) (by (with_reducible repeat (first | refine blk_drewN ?_ _ | refine blk_drew ?_ | refine blk_alloc ?_ _)); exact BK147.out)) : gb147 ≠ gb154)); have n8_ := Aside0.mk ((by rw [hg]; exact Nat.ne_of_gt (blk_lt (g := gb147) (o := .cells #[.int .i64 t143, .int .i64 t144] 39 (0, 0)) (by (with_reducible repeat (first | refine blk_drewN ?_ _ | refine blk_drew ?_ | refine blk_alloc ?_ _)); exact BK147.out)) : gb154 ≠ gb147)); have n9_ := Aside0.mk ((by rw [hg]; exact Nat.ne_of_lt (blk_lt (g := gb148) (o := .cells #[.int .i64 t145, .int .i64 t146] 39 (0, 0)) (by (with_reducible repeat (first | refine blk_drewN ?_ _ | refine blk_drew ?_ | refine blk_alloc ?_ _)); exact BK148.out)) : gb148 ≠ gb154)); have n10_ := Aside0.mk ((by rw [hg]; exact Nat.ne_of_gt (blk_lt (g := gb148) (o := .cells #[.int .i64 t145, .int .i64 t146] 39 (0, 0)) (by (with_reducible repeat (first | refine blk_drewN ?_ _ | refine blk_drew ?_ | refine blk_alloc ?_ _)); exact BK148.out)) : gb154 ≠ gb148)); have n11_ := Aside0.mk ((by rw [hg]; exact Nat.ne_of_lt (blk_lt (g := gb153) (o := .cells #[.int .i64 0, .int .i64 0] 39 (0, 0)) (by (with_reducible repeat (first | refine blk_drewN ?_ _ | refine blk_drew ?_ | refine blk_alloc ?_ _)); exact BK153.out)) : gb153 ≠ gb154)); have n12_ := Aside0.mk ((by rw [hg]; exact Nat.ne_of_gt (blk_lt (g := gb153) (o := .cells #[.int .i64 0, .int .i64 0] 39 (0, 0)) (by (with_reducible repeat (first | refine blk_drewN ?_ _ | refine blk_drew ?_ | refine blk_alloc ?_ _)); exact BK153.out)) : gb154 ≠ gb153)); clear BK147; clear BK148; clear BK153; clear HB; have BK147 := n0_; have BK148 := n1_; have BK153 := n2_; have HB := n3_; have BK154 := n4_; have GW154 := n5_; have GE154 := n6_; have NB147_154 := n7_; have NB154_147 := n8_; have NB148_154 := n9_; have NB154_148 := n10_; have NB153_154 := n11_; have NB154_153 := n12_; clear n0_ n1_ n2_ n3_ n4_ n5_ n6_ n7_ n8_ n9_ n10_ n11_ n12_; clear hb hbox hg; have hnb17 := NB153_147.out; have hnc17 := NB147_153.out; have hnb18 := NB153_148.out; have hnc18 := NB148_153.out; have hnb19 := NB153_154.out; have hnc19 := NB154_153.out; have hcz20_0 : w16.cell? ⟨gb153, 0, none⟩ = some (.int .i64 0) := (blk_cell BK153.out 0).trans rfl; have hcz20_1 : w16.cell? ⟨gb153, 1, none⟩ = some (.int .i64 0) := (blk_cell BK153.out 1).trans rfl; have hfz20_0 := blk_frozen BK153.out 0; have hfz20_1 := blk_frozen BK153.out 1; have hnb21 := NB154_147.out; have hnc21 := NB147_154.out; have hnb22 := NB154_148.out; have hnc22 := NB148_154.out; have hcz23_0 : w16.cell? ⟨gb154, 0, none⟩ = some (.int .i64 0) := (blk_cell BK154.out 0).trans rfl; have hcz23_1 : w16.cell? ⟨gb154, 1, none⟩ = some (.int .i64 0) := (blk_cell BK154.out 1).trans rfl; have hfz23_0 := blk_frozen BK154.out 0; have hfz23_1 := blk_frozen BK154.out 1))
    (try simp only [Act.put, List.setIfInBounds_toArray, List.set_cons_zero, List.set_cons_succ])
    go_cut [35] (fun v35 wc => ∃ (kq : Nat) (x35_6 : Bool), v35 = .bool x35_6 ∧ Aside0 (laws_FnVers.j0 kq x35_6 t143 t144 t145 t146 = some r) ∧ Aside0 (kq ≤ k) ∧ Aside0 (wc.heap[gb147]? = some (.cells #[.int .i64 t143, .int .i64 t144] 39 (0, 0))) ∧ Aside0 (wc.heap[gb148]? = some (.cells #[.int .i64 t145, .int .i64 t146] 39 (0, 0))) ∧ Aside0 (wc.heap[gb153]? = some (.cells #[.int .i64 t149, .int .i64 t150] 39 (0, 0))) ∧ Aside0 (wc.heap[gb154]? = some (.cells #[.int .i64 t151, .int .i64 t152] 39 (0, 0))) ∧ Aside0 (Below w.heap.size w wc))
    case first =>
      have H := HC7.out
      clear HC7
      replace H := Option.bind_eq_some_iff.mp H
      obtain ⟨t155, A240, H⟩ := H
      replace H : (if t155 = true then ((impl_VerLess.f k t145 t146 t149 t150).bind fun t156 => (if t156 = true then ((impl_VerLess.f k t143 t144 t149 t150).bind fun t157 => (laws_FnVers.j0 k (!t157) t143 t144 t145 t146)) else (laws_FnVers.j0 k false t143 t144 t145 t146))) else (laws_FnVers.j0 k false t143 t144 t145 t146)) = some r := H
      have A24 := Aside0.mk A240
      clear A240
      by_cases c25 : t155 = true
      · subst c25
        have H1 : ((impl_VerLess.f k t145 t146 t149 t150).bind fun t156 => (if t156 = true then ((impl_VerLess.f k t143 t144 t149 t150).bind fun t157 => (laws_FnVers.j0 k (!t157) t143 t144 t145 t146)) else (laws_FnVers.j0 k false t143 t144 t145 t146))) = some r := by rw [if_pos rfl] at H; exact H
        clear H
        have H := H1
        clear H1
        replace H := Option.bind_eq_some_iff.mp H
        obtain ⟨t156, A260, H⟩ := H
        replace H : (if t156 = true then ((impl_VerLess.f k t143 t144 t149 t150).bind fun t157 => (laws_FnVers.j0 k (!t157) t143 t144 t145 t146)) else (laws_FnVers.j0 k false t143 t144 t145 t146)) = some r := H
        have A26 := Aside0.mk A260
        clear A260
        by_cases c27 : t156 = true
        · subst c27
          have H1 : ((impl_VerLess.f k t143 t144 t149 t150).bind fun t157 => (laws_FnVers.j0 k (!t157) t143 t144 t145 t146)) = some r := by rw [if_pos rfl] at H; exact H
          clear H
          have H := H1
          clear H1
          replace H := Option.bind_eq_some_iff.mp H
          obtain ⟨t157, A280, H⟩ := H
          replace H : (laws_FnVers.j0 k (!t157) t143 t144 t145 t146) = some r := H
          have A28 := Aside0.mk A280
          clear A280
          have H' := Aside0.mk H
          clear H
          have hnb29 := NB147_148.out
          have hnc29 := NB148_147.out
          have hnb30 := NB147_153.out
          have hnc30 := NB153_147.out
          have hnb31 := NB147_154.out
          have hnc31 := NB154_147.out
          have hcz32_0 : w16.cell? ⟨gb147, 0, none⟩ = some (.int .i64 t143) := (blk_cell BK147.out 0).trans rfl
          have hcz32_1 : w16.cell? ⟨gb147, 1, none⟩ = some (.int .i64 t144) := (blk_cell BK147.out 1).trans rfl
          have hfz32_0 := blk_frozen BK147.out 0
          have hfz32_1 := blk_frozen BK147.out 1
          have hnb33 := NB148_153.out
          have hnc33 := NB153_148.out
          have hnb34 := NB148_154.out
          have hnc34 := NB154_148.out
          have hcz35_0 : w16.cell? ⟨gb148, 0, none⟩ = some (.int .i64 t145) := (blk_cell BK148.out 0).trans rfl
          have hcz35_1 : w16.cell? ⟨gb148, 1, none⟩ = some (.int .i64 t146) := (blk_cell BK148.out 1).trans rfl
          have hfz35_0 := blk_frozen BK148.out 0
          have hfz35_1 := blk_frozen BK148.out 1
          go_wp2_with (first | ((with_reducible refine gate_callee (f := 26) rfl ?_); refine goesL_ (some 24) rfl rfl Try.func26 (by kernel_rfl) rfl #[.agg #[.int .i64 t143, .int .i64 t144], .agg #[.int .i64 t145, .int .i64 t146]] rfl (by (try simp only [List.map_toArray, List.map_cons, List.map_nil]); first | done | rfl | (simp only [List.length_drop, List.length_take]; rfl)) ?_; (with_reducible refine (impl_VerLess.calls k t143 t144 t145 t146 true _ A24.out).mono ?_); rintro e w36 ⟨rfl, hb⟩; refine ⟨_, rfl, ?_⟩; have n0_ := Aside0.mk (blk_below (g := gb147) (o := .cells #[.int .i64 t143, .int .i64 t144] 39 (0, 0)) (by (with_reducible repeat (first | refine blk_drewN ?_ _ | refine blk_drew ?_ | refine blk_alloc ?_ _)); refine blk_far ?_ NB147_154.out _; (with_reducible repeat (first | refine blk_drewN ?_ _ | refine blk_drew ?_ | refine blk_alloc ?_ _)); refine blk_far ?_ NB147_154.out _; (with_reducible repeat (first | refine blk_drewN ?_ _ | refine blk_drew ?_ | refine blk_alloc ?_ _)); refine blk_far ?_ NB147_153.out _; (with_reducible repeat (first | refine blk_drewN ?_ _ | refine blk_drew ?_ | refine blk_alloc ?_ _)); refine blk_far ?_ NB147_153.out _; (with_reducible repeat (first | refine blk_drewN ?_ _ | refine blk_drew ?_ | refine blk_alloc ?_ _)); exact BK147.out) hb); have n1_ := Aside0.mk (blk_below (g := gb148) (o := .cells #[.int .i64 t145, .int .i64 t146] 39 (0, 0)) (by (with_reducible repeat (first | refine blk_drewN ?_ _ | refine blk_drew ?_ | refine blk_alloc ?_ _)); refine blk_far ?_ NB148_154.out _; (with_reducible repeat (first | refine blk_drewN ?_ _ | refine blk_drew ?_ | refine blk_alloc ?_ _)); refine blk_far ?_ NB148_154.out _; (with_reducible repeat (first | refine blk_drewN ?_ _ | refine blk_drew ?_ | refine blk_alloc ?_ _)); refine blk_far ?_ NB148_153.out _; (with_reducible repeat (first | refine blk_drewN ?_ _ | refine blk_drew ?_ | refine blk_alloc ?_ _)); refine blk_far ?_ NB148_153.out _; (with_reducible repeat (first | refine blk_drewN ?_ _ | refine blk_drew ?_ | refine blk_alloc ?_ _)); exact BK148.out) hb); have n2_ := Aside0.mk (blk_below (g := gb153) (o := .cells #[.int .i64 t149, .int .i64 t150] 39 (0, 0)) (by (with_reducible repeat (first | refine blk_drewN ?_ _ | refine blk_drew ?_ | refine blk_alloc ?_ _)); refine blk_far ?_ NB153_154.out _; (with_reducible repeat (first | refine blk_drewN ?_ _ | refine blk_drew ?_ | refine blk_alloc ?_ _)); refine blk_far ?_ NB153_154.out _; (with_reducible repeat (first | refine blk_drewN ?_ _ | refine blk_drew ?_ | refine blk_alloc ?_ _)); refine blk_put (cs := #[.int .i64 t149, .int .i64 0]) ?_ 1 _ rfl; (with_reducible repeat (first | refine blk_drewN ?_ _ | refine blk_drew ?_ | refine blk_alloc ?_ _)); refine blk_put (cs := #[.int .i64 0, .int .i64 0]) ?_ 0 _ rfl; (with_reducible repeat (first | refine blk_drewN ?_ _ | refine blk_drew ?_ | refine blk_alloc ?_ _)); exact BK153.out) hb); have n3_ := Aside0.mk (blk_below (g := gb154) (o := .cells #[.int .i64 t151, .int .i64 t152] 39 (0, 0)) (by (with_reducible repeat (first | refine blk_drewN ?_ _ | refine blk_drew ?_ | refine blk_alloc ?_ _)); refine blk_put (cs := #[.int .i64 t151, .int .i64 0]) ?_ 1 _ rfl; (with_reducible repeat (first | refine blk_drewN ?_ _ | refine blk_drew ?_ | refine blk_alloc ?_ _)); refine blk_put (cs := #[.int .i64 0, .int .i64 0]) ?_ 0 _ rfl; (with_reducible repeat (first | refine blk_drewN ?_ _ | refine blk_drew ?_ | refine blk_alloc ?_ _)); refine blk_far ?_ NB154_153.out _; (with_reducible repeat (first | refine blk_drewN ?_ _ | refine blk_drew ?_ | refine blk_alloc ?_ _)); refine blk_far ?_ NB154_153.out _; (with_reducible repeat (first | refine blk_drewN ?_ _ | refine blk_drew ?_ | refine blk_alloc ?_ _)); exact BK154.out) hb); have n4_ := Aside0.mk (below_step (by repeat (first | (with_reducible first | exact HB.out | apply below_alloc | apply pw_below_drewN | apply below_drew1 | refine below_set ?_ GE147.out | refine below_set ?_ GE148.out | refine below_set ?_ GE153.out | refine below_set ?_ GE154.out) | exact HB.out)) hb); clear BK147; clear BK148; clear BK153; clear BK154; clear HB; have BK147 := n0_; have BK148 := n1_; have BK153 := n2_; have BK154 := n3_; have HB := n4_; clear n0_ n1_ n2_ n3_ n4_; (try clear hb); (try clear hb2); (try clear hk); (try clear hi); have hcz37_0 : w36.cell? ⟨gb148, 0, none⟩ = some (.int .i64 t145) := (blk_cell BK148.out 0).trans rfl; have hcz37_1 : w36.cell? ⟨gb148, 1, none⟩ = some (.int .i64 t146) := (blk_cell BK148.out 1).trans rfl; have hfz37_0 := blk_frozen BK148.out 0; have hfz37_1 := blk_frozen BK148.out 1; have hnb38 := NB153_154.out; have hnc38 := NB154_153.out; have hcz39_0 : w36.cell? ⟨gb153, 0, none⟩ = some (.int .i64 t149) := (blk_cell BK153.out 0).trans rfl; have hcz39_1 : w36.cell? ⟨gb153, 1, none⟩ = some (.int .i64 t150) := (blk_cell BK153.out 1).trans rfl; have hfz39_0 := blk_frozen BK153.out 0; have hfz39_1 := blk_frozen BK153.out 1) | (go_at_call 26; (with_reducible refine (impl_VerLess.calls k t145 t146 t149 t150 true _ A26.out).mono ?_); rintro e w40 ⟨rfl, hb⟩; have n0_ := Aside0.mk (blk_below (g := gb147) (o := .cells #[.int .i64 t143, .int .i64 t144] 39 (0, 0)) (by (with_reducible repeat (first | refine blk_drewN ?_ _ | refine blk_drew ?_ | refine blk_alloc ?_ _)); exact BK147.out) hb); have n1_ := Aside0.mk (blk_below (g := gb148) (o := .cells #[.int .i64 t145, .int .i64 t146] 39 (0, 0)) (by (with_reducible repeat (first | refine blk_drewN ?_ _ | refine blk_drew ?_ | refine blk_alloc ?_ _)); exact BK148.out) hb); have n2_ := Aside0.mk (blk_below (g := gb153) (o := .cells #[.int .i64 t149, .int .i64 t150] 39 (0, 0)) (by (with_reducible repeat (first | refine blk_drewN ?_ _ | refine blk_drew ?_ | refine blk_alloc ?_ _)); exact BK153.out) hb); have n3_ := Aside0.mk (blk_below (g := gb154) (o := .cells #[.int .i64 t151, .int .i64 t152] 39 (0, 0)) (by (with_reducible repeat (first | refine blk_drewN ?_ _ | refine blk_drew ?_ | refine blk_alloc ?_ _)); exact BK154.out) hb); have n4_ := Aside0.mk (below_step (by repeat (first | (with_reducible first | exact HB.out | apply below_alloc | apply pw_below_drewN | apply below_drew1 | refine below_set ?_ GE147.out | refine below_set ?_ GE148.out | refine below_set ?_ GE153.out | refine below_set ?_ GE154.out) | exact HB.out)) hb); clear BK147; clear BK148; clear BK153; clear BK154; clear HB; have BK147 := n0_; have BK148 := n1_; have BK153 := n2_; have BK154 := n3_; have HB := n4_; clear n0_ n1_ n2_ n3_ n4_; (try clear hb); (try clear hb2); (try clear hk); (try clear hi); have hcz41_0 : w40.cell? ⟨gb147, 0, none⟩ = some (.int .i64 t143) := (blk_cell BK147.out 0).trans rfl; have hcz41_1 : w40.cell? ⟨gb147, 1, none⟩ = some (.int .i64 t144) := (blk_cell BK147.out 1).trans rfl; have hfz41_0 := blk_frozen BK147.out 0; have hfz41_1 := blk_frozen BK147.out 1; have hcz42_0 : w40.cell? ⟨gb153, 0, none⟩ = some (.int .i64 t149) := (blk_cell BK153.out 0).trans rfl; have hcz42_1 : w40.cell? ⟨gb153, 1, none⟩ = some (.int .i64 t150) := (blk_cell BK153.out 1).trans rfl; have hfz42_0 := blk_frozen BK153.out 0; have hfz42_1 := blk_frozen BK153.out 1) | (go_at_call 26; (with_reducible refine (impl_VerLess.calls k t143 t144 t149 t150 t157 _ A28.out).mono ?_); rintro e w43 ⟨rfl, hb⟩; have n0_ := Aside0.mk (blk_below (g := gb147) (o := .cells #[.int .i64 t143, .int .i64 t144] 39 (0, 0)) (by (with_reducible repeat (first | refine blk_drewN ?_ _ | refine blk_drew ?_ | refine blk_alloc ?_ _)); exact BK147.out) hb); have n1_ := Aside0.mk (blk_below (g := gb148) (o := .cells #[.int .i64 t145, .int .i64 t146] 39 (0, 0)) (by (with_reducible repeat (first | refine blk_drewN ?_ _ | refine blk_drew ?_ | refine blk_alloc ?_ _)); exact BK148.out) hb); have n2_ := Aside0.mk (blk_below (g := gb153) (o := .cells #[.int .i64 t149, .int .i64 t150] 39 (0, 0)) (by (with_reducible repeat (first | refine blk_drewN ?_ _ | refine blk_drew ?_ | refine blk_alloc ?_ _)); exact BK153.out) hb); have n3_ := Aside0.mk (blk_below (g := gb154) (o := .cells #[.int .i64 t151, .int .i64 t152] 39 (0, 0)) (by (with_reducible repeat (first | refine blk_drewN ?_ _ | refine blk_drew ?_ | refine blk_alloc ?_ _)); exact BK154.out) hb); have n4_ := Aside0.mk (below_step (by repeat (first | (with_reducible first | exact HB.out | apply below_alloc | apply pw_below_drewN | apply below_drew1 | refine below_set ?_ GE147.out | refine below_set ?_ GE148.out | refine below_set ?_ GE153.out | refine below_set ?_ GE154.out) | exact HB.out)) hb); clear BK147; clear BK148; clear BK153; clear BK154; clear HB; have BK147 := n0_; have BK148 := n1_; have BK153 := n2_; have BK154 := n3_; have HB := n4_; clear n0_ n1_ n2_ n3_ n4_; (try clear hb); (try clear hb2); (try clear hk); (try clear hi)))
          go_meet
          case rel => exact ⟨_, (!t157), (by first | rfl | (simp; done) | (simp [*]; done)), H', ⟨by first | omega | exact Nat.le_refl _⟩, ⟨by (with_reducible repeat (first | refine blk_drewN ?_ _ | refine blk_drew ?_ | refine blk_alloc ?_ _)); exact BK147.out⟩, ⟨by (with_reducible repeat (first | refine blk_drewN ?_ _ | refine blk_drew ?_ | refine blk_alloc ?_ _)); exact BK148.out⟩, ⟨by (with_reducible repeat (first | refine blk_drewN ?_ _ | refine blk_drew ?_ | refine blk_alloc ?_ _)); exact BK153.out⟩, ⟨by (with_reducible repeat (first | refine blk_drewN ?_ _ | refine blk_drew ?_ | refine blk_alloc ?_ _)); exact BK154.out⟩, ⟨by repeat (first | (with_reducible first | exact HB.out | apply below_alloc | apply pw_below_drewN | apply below_drew1 | refine below_set ?_ GE147.out | refine below_set ?_ GE148.out | refine below_set ?_ GE153.out | refine below_set ?_ GE154.out) | exact HB.out)⟩⟩
        · replace c27 := Bool.eq_false_iff.mpr c27
          subst c27
          have H1 : (laws_FnVers.j0 k false t143 t144 t145 t146) = some r := by rw [if_neg (show ¬ (false = true) by decide)] at H; exact H
          clear H
          have H := H1
          clear H1
          have H' := Aside0.mk H
          clear H
          have hnb44 := NB147_148.out
          have hnc44 := NB148_147.out
          have hnb45 := NB147_153.out
          have hnc45 := NB153_147.out
          have hnb46 := NB147_154.out
          have hnc46 := NB154_147.out
          have hcz47_0 : w16.cell? ⟨gb147, 0, none⟩ = some (.int .i64 t143) := (blk_cell BK147.out 0).trans rfl
          have hcz47_1 : w16.cell? ⟨gb147, 1, none⟩ = some (.int .i64 t144) := (blk_cell BK147.out 1).trans rfl
          have hfz47_0 := blk_frozen BK147.out 0
          have hfz47_1 := blk_frozen BK147.out 1
          have hnb48 := NB148_153.out
          have hnc48 := NB153_148.out
          have hnb49 := NB148_154.out
          have hnc49 := NB154_148.out
          have hcz50_0 : w16.cell? ⟨gb148, 0, none⟩ = some (.int .i64 t145) := (blk_cell BK148.out 0).trans rfl
          have hcz50_1 : w16.cell? ⟨gb148, 1, none⟩ = some (.int .i64 t146) := (blk_cell BK148.out 1).trans rfl
          have hfz50_0 := blk_frozen BK148.out 0
          have hfz50_1 := blk_frozen BK148.out 1
          go_wp2_with (first | ((with_reducible refine gate_callee (f := 26) rfl ?_); refine goesL_ (some 24) rfl rfl Try.func26 (by kernel_rfl) rfl #[.agg #[.int .i64 t143, .int .i64 t144], .agg #[.int .i64 t145, .int .i64 t146]] rfl (by (try simp only [List.map_toArray, List.map_cons, List.map_nil]); first | done | rfl | (simp only [List.length_drop, List.length_take]; rfl)) ?_; (with_reducible refine (impl_VerLess.calls k t143 t144 t145 t146 true _ A24.out).mono ?_); rintro e w51 ⟨rfl, hb⟩; refine ⟨_, rfl, ?_⟩; have n0_ := Aside0.mk (blk_below (g := gb147) (o := .cells #[.int .i64 t143, .int .i64 t144] 39 (0, 0)) (by (with_reducible repeat (first | refine blk_drewN ?_ _ | refine blk_drew ?_ | refine blk_alloc ?_ _)); refine blk_far ?_ NB147_154.out _; (with_reducible repeat (first | refine blk_drewN ?_ _ | refine blk_drew ?_ | refine blk_alloc ?_ _)); refine blk_far ?_ NB147_154.out _; (with_reducible repeat (first | refine blk_drewN ?_ _ | refine blk_drew ?_ | refine blk_alloc ?_ _)); refine blk_far ?_ NB147_153.out _; (with_reducible repeat (first | refine blk_drewN ?_ _ | refine blk_drew ?_ | refine blk_alloc ?_ _)); refine blk_far ?_ NB147_153.out _; (with_reducible repeat (first | refine blk_drewN ?_ _ | refine blk_drew ?_ | refine blk_alloc ?_ _)); exact BK147.out) hb); have n1_ := Aside0.mk (blk_below (g := gb148) (o := .cells #[.int .i64 t145, .int .i64 t146] 39 (0, 0)) (by (with_reducible repeat (first | refine blk_drewN ?_ _ | refine blk_drew ?_ | refine blk_alloc ?_ _)); refine blk_far ?_ NB148_154.out _; (with_reducible repeat (first | refine blk_drewN ?_ _ | refine blk_drew ?_ | refine blk_alloc ?_ _)); refine blk_far ?_ NB148_154.out _; (with_reducible repeat (first | refine blk_drewN ?_ _ | refine blk_drew ?_ | refine blk_alloc ?_ _)); refine blk_far ?_ NB148_153.out _; (with_reducible repeat (first | refine blk_drewN ?_ _ | refine blk_drew ?_ | refine blk_alloc ?_ _)); refine blk_far ?_ NB148_153.out _; (with_reducible repeat (first | refine blk_drewN ?_ _ | refine blk_drew ?_ | refine blk_alloc ?_ _)); exact BK148.out) hb); have n2_ := Aside0.mk (blk_below (g := gb153) (o := .cells #[.int .i64 t149, .int .i64 t150] 39 (0, 0)) (by (with_reducible repeat (first | refine blk_drewN ?_ _ | refine blk_drew ?_ | refine blk_alloc ?_ _)); refine blk_far ?_ NB153_154.out _; (with_reducible repeat (first | refine blk_drewN ?_ _ | refine blk_drew ?_ | refine blk_alloc ?_ _)); refine blk_far ?_ NB153_154.out _; (with_reducible repeat (first | refine blk_drewN ?_ _ | refine blk_drew ?_ | refine blk_alloc ?_ _)); refine blk_put (cs := #[.int .i64 t149, .int .i64 0]) ?_ 1 _ rfl; (with_reducible repeat (first | refine blk_drewN ?_ _ | refine blk_drew ?_ | refine blk_alloc ?_ _)); refine blk_put (cs := #[.int .i64 0, .int .i64 0]) ?_ 0 _ rfl; (with_reducible repeat (first | refine blk_drewN ?_ _ | refine blk_drew ?_ | refine blk_alloc ?_ _)); exact BK153.out) hb); have n3_ := Aside0.mk (blk_below (g := gb154) (o := .cells #[.int .i64 t151, .int .i64 t152] 39 (0, 0)) (by (with_reducible repeat (first | refine blk_drewN ?_ _ | refine blk_drew ?_ | refine blk_alloc ?_ _)); refine blk_put (cs := #[.int .i64 t151, .int .i64 0]) ?_ 1 _ rfl; (with_reducible repeat (first | refine blk_drewN ?_ _ | refine blk_drew ?_ | refine blk_alloc ?_ _)); refine blk_put (cs := #[.int .i64 0, .int .i64 0]) ?_ 0 _ rfl; (with_reducible repeat (first | refine blk_drewN ?_ _ | refine blk_drew ?_ | refine blk_alloc ?_ _)); refine blk_far ?_ NB154_153.out _; (with_reducible repeat (first | refine blk_drewN ?_ _ | refine blk_drew ?_ | refine blk_alloc ?_ _)); refine blk_far ?_ NB154_153.out _; (with_reducible repeat (first | refine blk_drewN ?_ _ | refine blk_drew ?_ | refine blk_alloc ?_ _)); exact BK154.out) hb); have n4_ := Aside0.mk (below_step (by repeat (first | (with_reducible first | exact HB.out | apply below_alloc | apply pw_below_drewN | apply below_drew1 | refine below_set ?_ GE147.out | refine below_set ?_ GE148.out | refine below_set ?_ GE153.out | refine below_set ?_ GE154.out) | exact HB.out)) hb); clear BK147; clear BK148; clear BK153; clear BK154; clear HB; have BK147 := n0_; have BK148 := n1_; have BK153 := n2_; have BK154 := n3_; have HB := n4_; clear n0_ n1_ n2_ n3_ n4_; (try clear hb); (try clear hb2); (try clear hk); (try clear hi); have hcz52_0 : w51.cell? ⟨gb148, 0, none⟩ = some (.int .i64 t145) := (blk_cell BK148.out 0).trans rfl; have hcz52_1 : w51.cell? ⟨gb148, 1, none⟩ = some (.int .i64 t146) := (blk_cell BK148.out 1).trans rfl; have hfz52_0 := blk_frozen BK148.out 0; have hfz52_1 := blk_frozen BK148.out 1; have hnb53 := NB153_154.out; have hnc53 := NB154_153.out; have hcz54_0 : w51.cell? ⟨gb153, 0, none⟩ = some (.int .i64 t149) := (blk_cell BK153.out 0).trans rfl; have hcz54_1 : w51.cell? ⟨gb153, 1, none⟩ = some (.int .i64 t150) := (blk_cell BK153.out 1).trans rfl; have hfz54_0 := blk_frozen BK153.out 0; have hfz54_1 := blk_frozen BK153.out 1) | (go_at_call 26; (with_reducible refine (impl_VerLess.calls k t145 t146 t149 t150 false _ A26.out).mono ?_); rintro e w55 ⟨rfl, hb⟩; have n0_ := Aside0.mk (blk_below (g := gb147) (o := .cells #[.int .i64 t143, .int .i64 t144] 39 (0, 0)) (by (with_reducible repeat (first | refine blk_drewN ?_ _ | refine blk_drew ?_ | refine blk_alloc ?_ _)); exact BK147.out) hb); have n1_ := Aside0.mk (blk_below (g := gb148) (o := .cells #[.int .i64 t145, .int .i64 t146] 39 (0, 0)) (by (with_reducible repeat (first | refine blk_drewN ?_ _ | refine blk_drew ?_ | refine blk_alloc ?_ _)); exact BK148.out) hb); have n2_ := Aside0.mk (blk_below (g := gb153) (o := .cells #[.int .i64 t149, .int .i64 t150] 39 (0, 0)) (by (with_reducible repeat (first | refine blk_drewN ?_ _ | refine blk_drew ?_ | refine blk_alloc ?_ _)); exact BK153.out) hb); have n3_ := Aside0.mk (blk_below (g := gb154) (o := .cells #[.int .i64 t151, .int .i64 t152] 39 (0, 0)) (by (with_reducible repeat (first | refine blk_drewN ?_ _ | refine blk_drew ?_ | refine blk_alloc ?_ _)); exact BK154.out) hb); have n4_ := Aside0.mk (below_step (by repeat (first | (with_reducible first | exact HB.out | apply below_alloc | apply pw_below_drewN | apply below_drew1 | refine below_set ?_ GE147.out | refine below_set ?_ GE148.out | refine below_set ?_ GE153.out | refine below_set ?_ GE154.out) | exact HB.out)) hb); clear BK147; clear BK148; clear BK153; clear BK154; clear HB; have BK147 := n0_; have BK148 := n1_; have BK153 := n2_; have BK154 := n3_; have HB := n4_; clear n0_ n1_ n2_ n3_ n4_; (try clear hb); (try clear hb2); (try clear hk); (try clear hi)))
          go_meet
          case rel => exact ⟨_, (false), (by first | rfl | (simp; done) | (simp [*]; done)), H', ⟨by first | omega | exact Nat.le_refl _⟩, ⟨by (with_reducible repeat (first | refine blk_drewN ?_ _ | refine blk_drew ?_ | refine blk_alloc ?_ _)); exact BK147.out⟩, ⟨by (with_reducible repeat (first | refine blk_drewN ?_ _ | refine blk_drew ?_ | refine blk_alloc ?_ _)); exact BK148.out⟩, ⟨by (with_reducible repeat (first | refine blk_drewN ?_ _ | refine blk_drew ?_ | refine blk_alloc ?_ _)); exact BK153.out⟩, ⟨by (with_reducible repeat (first | refine blk_drewN ?_ _ | refine blk_drew ?_ | refine blk_alloc ?_ _)); exact BK154.out⟩, ⟨by repeat (first | (with_reducible first | exact HB.out | apply below_alloc | apply pw_below_drewN | apply below_drew1 | refine below_set ?_ GE147.out | refine below_set ?_ GE148.out | refine below_set ?_ GE153.out | refine below_set ?_ GE154.out) | exact HB.out)⟩⟩
      · replace c25 := Bool.eq_false_iff.mpr c25
        subst c25
        have H1 : (laws_FnVers.j0 k false t143 t144 t145 t146) = some r := by rw [if_neg (show ¬ (false = true) by decide)] at H; exact H
        clear H
        have H := H1
        clear H1
        have H' := Aside0.mk H
        clear H
        have hnb56 := NB147_148.out
        have hnc56 := NB148_147.out
        have hnb57 := NB147_153.out
        have hnc57 := NB153_147.out
        have hnb58 := NB147_154.out
        have hnc58 := NB154_147.out
        have hcz59_0 : w16.cell? ⟨gb147, 0, none⟩ = some (.int .i64 t143) := (blk_cell BK147.out 0).trans rfl
        have hcz59_1 : w16.cell? ⟨gb147, 1, none⟩ = some (.int .i64 t144) := (blk_cell BK147.out 1).trans rfl
        have hfz59_0 := blk_frozen BK147.out 0
        have hfz59_1 := blk_frozen BK147.out 1
        have hnb60 := NB148_153.out
        have hnc60 := NB153_148.out
        have hnb61 := NB148_154.out
        have hnc61 := NB154_148.out
        have hcz62_0 : w16.cell? ⟨gb148, 0, none⟩ = some (.int .i64 t145) := (blk_cell BK148.out 0).trans rfl
        have hcz62_1 : w16.cell? ⟨gb148, 1, none⟩ = some (.int .i64 t146) := (blk_cell BK148.out 1).trans rfl
        have hfz62_0 := blk_frozen BK148.out 0
        have hfz62_1 := blk_frozen BK148.out 1
        go_wp2_with (first | ((with_reducible refine gate_callee (f := 26) rfl ?_); refine goesL_ (some 24) rfl rfl Try.func26 (by kernel_rfl) rfl #[.agg #[.int .i64 t143, .int .i64 t144], .agg #[.int .i64 t145, .int .i64 t146]] rfl (by (try simp only [List.map_toArray, List.map_cons, List.map_nil]); first | done | rfl | (simp only [List.length_drop, List.length_take]; rfl)) ?_; (with_reducible refine (impl_VerLess.calls k t143 t144 t145 t146 false _ A24.out).mono ?_); rintro e w63 ⟨rfl, hb⟩; refine ⟨_, rfl, ?_⟩; have n0_ := Aside0.mk (blk_below (g := gb147) (o := .cells #[.int .i64 t143, .int .i64 t144] 39 (0, 0)) (by (with_reducible repeat (first | refine blk_drewN ?_ _ | refine blk_drew ?_ | refine blk_alloc ?_ _)); refine blk_far ?_ NB147_154.out _; (with_reducible repeat (first | refine blk_drewN ?_ _ | refine blk_drew ?_ | refine blk_alloc ?_ _)); refine blk_far ?_ NB147_154.out _; (with_reducible repeat (first | refine blk_drewN ?_ _ | refine blk_drew ?_ | refine blk_alloc ?_ _)); refine blk_far ?_ NB147_153.out _; (with_reducible repeat (first | refine blk_drewN ?_ _ | refine blk_drew ?_ | refine blk_alloc ?_ _)); refine blk_far ?_ NB147_153.out _; (with_reducible repeat (first | refine blk_drewN ?_ _ | refine blk_drew ?_ | refine blk_alloc ?_ _)); exact BK147.out) hb); have n1_ := Aside0.mk (blk_below (g := gb148) (o := .cells #[.int .i64 t145, .int .i64 t146] 39 (0, 0)) (by (with_reducible repeat (first | refine blk_drewN ?_ _ | refine blk_drew ?_ | refine blk_alloc ?_ _)); refine blk_far ?_ NB148_154.out _; (with_reducible repeat (first | refine blk_drewN ?_ _ | refine blk_drew ?_ | refine blk_alloc ?_ _)); refine blk_far ?_ NB148_154.out _; (with_reducible repeat (first | refine blk_drewN ?_ _ | refine blk_drew ?_ | refine blk_alloc ?_ _)); refine blk_far ?_ NB148_153.out _; (with_reducible repeat (first | refine blk_drewN ?_ _ | refine blk_drew ?_ | refine blk_alloc ?_ _)); refine blk_far ?_ NB148_153.out _; (with_reducible repeat (first | refine blk_drewN ?_ _ | refine blk_drew ?_ | refine blk_alloc ?_ _)); exact BK148.out) hb); have n2_ := Aside0.mk (blk_below (g := gb153) (o := .cells #[.int .i64 t149, .int .i64 t150] 39 (0, 0)) (by (with_reducible repeat (first | refine blk_drewN ?_ _ | refine blk_drew ?_ | refine blk_alloc ?_ _)); refine blk_far ?_ NB153_154.out _; (with_reducible repeat (first | refine blk_drewN ?_ _ | refine blk_drew ?_ | refine blk_alloc ?_ _)); refine blk_far ?_ NB153_154.out _; (with_reducible repeat (first | refine blk_drewN ?_ _ | refine blk_drew ?_ | refine blk_alloc ?_ _)); refine blk_put (cs := #[.int .i64 t149, .int .i64 0]) ?_ 1 _ rfl; (with_reducible repeat (first | refine blk_drewN ?_ _ | refine blk_drew ?_ | refine blk_alloc ?_ _)); refine blk_put (cs := #[.int .i64 0, .int .i64 0]) ?_ 0 _ rfl; (with_reducible repeat (first | refine blk_drewN ?_ _ | refine blk_drew ?_ | refine blk_alloc ?_ _)); exact BK153.out) hb); have n3_ := Aside0.mk (blk_below (g := gb154) (o := .cells #[.int .i64 t151, .int .i64 t152] 39 (0, 0)) (by (with_reducible repeat (first | refine blk_drewN ?_ _ | refine blk_drew ?_ | refine blk_alloc ?_ _)); refine blk_put (cs := #[.int .i64 t151, .int .i64 0]) ?_ 1 _ rfl; (with_reducible repeat (first | refine blk_drewN ?_ _ | refine blk_drew ?_ | refine blk_alloc ?_ _)); refine blk_put (cs := #[.int .i64 0, .int .i64 0]) ?_ 0 _ rfl; (with_reducible repeat (first | refine blk_drewN ?_ _ | refine blk_drew ?_ | refine blk_alloc ?_ _)); refine blk_far ?_ NB154_153.out _; (with_reducible repeat (first | refine blk_drewN ?_ _ | refine blk_drew ?_ | refine blk_alloc ?_ _)); refine blk_far ?_ NB154_153.out _; (with_reducible repeat (first | refine blk_drewN ?_ _ | refine blk_drew ?_ | refine blk_alloc ?_ _)); exact BK154.out) hb); have n4_ := Aside0.mk (below_step (by repeat (first | (with_reducible first | exact HB.out | apply below_alloc | apply pw_below_drewN | apply below_drew1 | refine below_set ?_ GE147.out | refine below_set ?_ GE148.out | refine below_set ?_ GE153.out | refine below_set ?_ GE154.out) | exact HB.out)) hb); clear BK147; clear BK148; clear BK153; clear BK154; clear HB; have BK147 := n0_; have BK148 := n1_; have BK153 := n2_; have BK154 := n3_; have HB := n4_; clear n0_ n1_ n2_ n3_ n4_; (try clear hb); (try clear hb2); (try clear hk); (try clear hi)))
        go_meet
        case rel => exact ⟨_, (false), (by first | rfl | (simp; done) | (simp [*]; done)), H', ⟨by first | omega | exact Nat.le_refl _⟩, ⟨by (with_reducible repeat (first | refine blk_drewN ?_ _ | refine blk_drew ?_ | refine blk_alloc ?_ _)); exact BK147.out⟩, ⟨by (with_reducible repeat (first | refine blk_drewN ?_ _ | refine blk_drew ?_ | refine blk_alloc ?_ _)); exact BK148.out⟩, ⟨by (with_reducible repeat (first | refine blk_drewN ?_ _ | refine blk_drew ?_ | refine blk_alloc ?_ _)); exact BK153.out⟩, ⟨by (with_reducible repeat (first | refine blk_drewN ?_ _ | refine blk_drew ?_ | refine blk_alloc ?_ _)); exact BK154.out⟩, ⟨by repeat (first | (with_reducible first | exact HB.out | apply below_alloc | apply pw_below_drewN | apply below_drew1 | refine below_set ?_ GE147.out | refine below_set ?_ GE148.out | refine below_set ?_ GE153.out | refine below_set ?_ GE154.out) | exact HB.out)⟩⟩
    case rest =>
      clear HC7
      try clear c1
      try clear c2
      try clear p2
      try clear c3
      try clear c4
      try clear c5
      try clear c6
      try clear c8
      try clear c11
      try clear c17
      try clear c18
      try clear c19
      try clear c21
      try clear c22
      try clear c25
      try clear c26
      try clear c27
      try clear c28
      try clear c29
      try clear c30
      try clear c31
      try clear c33
      try clear c34
      try clear c38
      try clear c44
      try clear c45
      try clear c46
      try clear c48
      try clear c49
      try clear c53
      try clear c56
      try clear c57
      try clear c58
      try clear c60
      try clear c61
      try clear hcz12_0
      try clear hcz12_1
      try clear hcz13_0
      try clear hcz13_1
      try clear hcz20_0
      try clear hcz20_1
      try clear hcz23_0
      try clear hcz23_1
      try clear hcz32_0
      try clear hcz32_1
      try clear hcz35_0
      try clear hcz35_1
      try clear hcz37_0
      try clear hcz37_1
      try clear hcz39_0
      try clear hcz39_1
      try clear hcz41_0
      try clear hcz41_1
      try clear hcz42_0
      try clear hcz42_1
      try clear hcz47_0
      try clear hcz47_1
      try clear hcz50_0
      try clear hcz50_1
      try clear hcz52_0
      try clear hcz52_1
      try clear hcz54_0
      try clear hcz54_1
      try clear hcz59_0
      try clear hcz59_1
      try clear hcz62_0
      try clear hcz62_1
      try clear hfz12_0
      try clear hfz12_1
      try clear hfz13_0
      try clear hfz13_1
      try clear hfz20_0
      try clear hfz20_1
      try clear hfz23_0
      try clear hfz23_1
      try clear hfz32_0
      try clear hfz32_1
      try clear hfz35_0
      try clear hfz35_1
      try clear hfz37_0
      try clear hfz37_1
      try clear hfz39_0
      try clear hfz39_1
      try clear hfz41_0
      try clear hfz41_1
      try clear hfz42_0
      try clear hfz42_1
      try clear hfz47_0
      try clear hfz47_1
      try clear hfz50_0
      try clear hfz50_1
      try clear hfz52_0
      try clear hfz52_1
      try clear hfz54_0
      try clear hfz54_1
      try clear hfz59_0
      try clear hfz59_1
      try clear hfz62_0
      try clear hfz62_1
      obtain ⟨kq, x35_6, rfl, HA, HJ6, BK147, BK148, BK153, BK154, HB⟩ := hcut
      cases kq with
      | zero => exact absurd HA.out (by simp [laws_FnVers.j0])
      | succ kj6 =>
        have H := HA.out
        clear HA
        simp only [laws_FnVers.j0] at H
        by_cases c64 : x35_6 = true
        · subst c64
          have H1 : (some false) = some r := by rw [if_pos rfl] at H; exact H
          clear H
          have H := H1
          clear H1
          obtain rfl := Option.some.inj H
          go_wp2
          go_ret
          exact ⟨by first | rfl | (simp [errW_none, errW_some] <;> rfl) | (simp [*, errW_none, errW_some] <;> rfl), by repeat (first | (with_reducible first | exact HB.out | apply below_alloc | apply pw_below_drewN | apply below_drew1 | refine below_set ?_ GE147.out | refine below_set ?_ GE148.out | refine below_set ?_ GE153.out | refine below_set ?_ GE154.out) | exact HB.out)⟩
        · replace c64 := Bool.eq_false_iff.mpr c64
          subst c64
          have H1 : (if (t143 == t145 && (t144 == t146)) = true then ((impl_VerLess.f kj6 t143 t144 t145 t146).bind fun t158 => (some (!t158))) else ((impl_VerLess.f kj6 t143 t144 t145 t146).bind fun t159 => ((impl_VerLess.f kj6 t145 t146 t143 t144).bind fun t160 => (some (t159 != t160))))) = some r := by rw [if_neg (show ¬ (false = true) by decide)] at H; exact H
          clear H
          have H := H1
          clear H1
          by_cases c65 : (t143 == t145 && (t144 == t146)) = true
          · rw [if_pos c65] at H
            have c65b0 : (t143 == t145 && (t144 == t146)) = true := c65
            (try (have c65b1 : decide (t143 = t145 && (t144 == t146)) = true := by simpa using c65))
            (try (have c65b2 : (t143 == t145 && (t144 == t146)) = true := by simpa using c65))
            clear c65
            replace H := Option.bind_eq_some_iff.mp H
            obtain ⟨t158, A660, H⟩ := H
            replace H : (some (!t158)) = some r := H
            have A66 := Aside0.mk A660
            clear A660
            obtain rfl := Option.some.inj H
            have hnb67 := NB147_148.out
            have hnc67 := NB148_147.out
            have hnb68 := NB147_153.out
            have hnc68 := NB153_147.out
            have hnb69 := NB147_154.out
            have hnc69 := NB154_147.out
            have hcz70_0 : wc.cell? ⟨gb147, 0, none⟩ = some (.int .i64 t143) := (blk_cell BK147.out 0).trans rfl
            have hcz70_1 : wc.cell? ⟨gb147, 1, none⟩ = some (.int .i64 t144) := (blk_cell BK147.out 1).trans rfl
            have hfz70_0 := blk_frozen BK147.out 0
            have hfz70_1 := blk_frozen BK147.out 1
            have hnb71 := NB148_153.out
            have hnc71 := NB153_148.out
            have hnb72 := NB148_154.out
            have hnc72 := NB154_148.out
            have hcz73_0 : wc.cell? ⟨gb148, 0, none⟩ = some (.int .i64 t145) := (blk_cell BK148.out 0).trans rfl
            have hcz73_1 : wc.cell? ⟨gb148, 1, none⟩ = some (.int .i64 t146) := (blk_cell BK148.out 1).trans rfl
            have hfz73_0 := blk_frozen BK148.out 0
            have hfz73_1 := blk_frozen BK148.out 1
            go_wp2_with (first | ((with_reducible refine gate_callee (f := 26) rfl ?_); refine goesL_ (some 41) rfl rfl Try.func26 (by kernel_rfl) rfl #[.agg #[.int .i64 t143, .int .i64 t144], .agg #[.int .i64 t145, .int .i64 t146]] rfl (by (try simp only [List.map_toArray, List.map_cons, List.map_nil]); first | done | rfl | (simp only [List.length_drop, List.length_take]; rfl)) ?_; (with_reducible refine (impl_VerLess.calls kj6 t143 t144 t145 t146 t158 _ A66.out).mono ?_); rintro e w74 ⟨rfl, hb⟩; refine ⟨_, rfl, ?_⟩; have n0_ := Aside0.mk (blk_below (g := gb147) (o := .cells #[.int .i64 t143, .int .i64 t144] 39 (0, 0)) (by (with_reducible repeat (first | refine blk_drewN ?_ _ | refine blk_drew ?_ | refine blk_alloc ?_ _)); exact BK147.out) hb); have n1_ := Aside0.mk (blk_below (g := gb148) (o := .cells #[.int .i64 t145, .int .i64 t146] 39 (0, 0)) (by (with_reducible repeat (first | refine blk_drewN ?_ _ | refine blk_drew ?_ | refine blk_alloc ?_ _)); exact BK148.out) hb); have n2_ := Aside0.mk (blk_below (g := gb153) (o := .cells #[.int .i64 t149, .int .i64 t150] 39 (0, 0)) (by (with_reducible repeat (first | refine blk_drewN ?_ _ | refine blk_drew ?_ | refine blk_alloc ?_ _)); exact BK153.out) hb); have n3_ := Aside0.mk (blk_below (g := gb154) (o := .cells #[.int .i64 t151, .int .i64 t152] 39 (0, 0)) (by (with_reducible repeat (first | refine blk_drewN ?_ _ | refine blk_drew ?_ | refine blk_alloc ?_ _)); exact BK154.out) hb); have n4_ := Aside0.mk (below_step (by repeat (first | (with_reducible first | exact HB.out | apply below_alloc | apply pw_below_drewN | apply below_drew1 | refine below_set ?_ GE147.out | refine below_set ?_ GE148.out | refine below_set ?_ GE153.out | refine below_set ?_ GE154.out) | exact HB.out)) hb); clear BK147; clear BK148; clear BK153; clear BK154; clear HB; have BK147 := n0_; have BK148 := n1_; have BK153 := n2_; have BK154 := n3_; have HB := n4_; clear n0_ n1_ n2_ n3_ n4_; (try clear hb); (try clear hb2); (try clear hk); (try clear hi)))
            go_ret
            exact ⟨by first | rfl | (simp [errW_none, errW_some] <;> rfl) | (simp [*, errW_none, errW_some] <;> rfl), by repeat (first | (with_reducible first | exact HB.out | apply below_alloc | apply pw_below_drewN | apply below_drew1 | refine below_set ?_ GE147.out | refine below_set ?_ GE148.out | refine below_set ?_ GE153.out | refine below_set ?_ GE154.out) | exact HB.out)⟩
          · rw [if_neg c65] at H
            have c65b0 : (t143 == t145 && (t144 == t146)) = false := by simpa using c65
            (try (have c65b1 : decide (t143 = t145 && (t144 == t146)) = false := by simpa using c65))
            (try (have c65b2 : (t143 == t145 && (t144 == t146)) = false := by simpa using c65))
            (try (have c65b3 : ¬ (t143 = t145 && (t144 == t146)) := by simpa using c65))
            clear c65
            replace H := Option.bind_eq_some_iff.mp H
            obtain ⟨t159, A750, H⟩ := H
            replace H : ((impl_VerLess.f kj6 t145 t146 t143 t144).bind fun t160 => (some (t159 != t160))) = some r := H
            have A75 := Aside0.mk A750
            clear A750
            replace H := Option.bind_eq_some_iff.mp H
            obtain ⟨t160, A760, H⟩ := H
            replace H : (some (t159 != t160)) = some r := H
            have A76 := Aside0.mk A760
            clear A760
            obtain rfl := Option.some.inj H
            have hnb77 := NB147_148.out
            have hnc77 := NB148_147.out
            have hnb78 := NB147_153.out
            have hnc78 := NB153_147.out
            have hnb79 := NB147_154.out
            have hnc79 := NB154_147.out
            have hcz80_0 : wc.cell? ⟨gb147, 0, none⟩ = some (.int .i64 t143) := (blk_cell BK147.out 0).trans rfl
            have hcz80_1 : wc.cell? ⟨gb147, 1, none⟩ = some (.int .i64 t144) := (blk_cell BK147.out 1).trans rfl
            have hfz80_0 := blk_frozen BK147.out 0
            have hfz80_1 := blk_frozen BK147.out 1
            have hnb81 := NB148_153.out
            have hnc81 := NB153_148.out
            have hnb82 := NB148_154.out
            have hnc82 := NB154_148.out
            have hcz83_0 : wc.cell? ⟨gb148, 0, none⟩ = some (.int .i64 t145) := (blk_cell BK148.out 0).trans rfl
            have hcz83_1 : wc.cell? ⟨gb148, 1, none⟩ = some (.int .i64 t146) := (blk_cell BK148.out 1).trans rfl
            have hfz83_0 := blk_frozen BK148.out 0
            have hfz83_1 := blk_frozen BK148.out 1
            try go_wp2
            have n0_ := Aside0.mk (blk_drew BK147.out)
            have n1_ := Aside0.mk (blk_drew BK148.out)
            have n2_ := Aside0.mk (blk_drew BK153.out)
            have n3_ := Aside0.mk (blk_drew BK154.out)
            have n4_ := Aside0.mk (below_drew1 HB.out)
            clear BK147
            clear BK148
            clear BK153
            clear BK154
            clear HB
            have BK147 := n0_
            have BK148 := n1_
            have BK153 := n2_
            have BK154 := n3_
            have HB := n4_
            clear n0_ n1_ n2_ n3_ n4_
            refine start_ (n := 8) (S := fun w' => w'.cell? ⟨gb147, 0, none⟩ = some (.int .i64 t143) ∧ w'.cell? ⟨gb147, 1, none⟩ = some (.int .i64 t144) ∧ w'.cell? ⟨gb148, 0, none⟩ = some (.int .i64 t145) ∧ w'.cell? ⟨gb148, 1, none⟩ = some (.int .i64 t146)) (ds := []) #[false, false, false, false, false, false, false, false] (by kernel_rfl) rfl rfl ⟨(blk_cell BK147.out 0).trans rfl, (blk_cell BK147.out 1).trans rfl, (blk_cell BK148.out 0).trans rfl, (blk_cell BK148.out 1).trans rfl⟩ (fun hHeld => ?_); refine with_tabW laws_FnVers.tab9 laws_FnVers.bits9 (fun HT_ HW_ => ?_)
            generalize wc.drew = w84 at BK147 BK148 BK153 BK154 HB hHeld ⊢
            refine take_ (i := 0) (N := some 43) (v := ?_) (a' := ?_) #[true, false, false, false, false, false, false, false] rfl rfl (take_ofW HT_.out HW_.out (by kernel_rfl)) (fun _ _ _ h => h) (Or.inl ⟨by rfl, ?_⟩) hHeld ?_ ?_
            rotate_left
            · rintro w' ⟨s0, s1, s2, s3⟩
              go_simp
              with_reducible rfl
            rotate_left
            · simp only [Act.put, List.setIfInBounds_toArray, List.set_cons_zero, List.set_cons_succ, i64_w, i32_w]
              rfl
            refine take_ (i := 1) (N := some 44) (v := ?_) (a' := ?_) #[true, true, false, false, false, false, false, false] rfl rfl (take_ofW HT_.out HW_.out (by kernel_rfl)) (fun _ _ _ h => h) (Or.inl ⟨by rfl, ?_⟩) hHeld ?_ ?_
            rotate_left
            · rintro w' ⟨s0, s1, s2, s3⟩
              go_simp
              with_reducible rfl
            rotate_left
            · simp only [Act.put, List.setIfInBounds_toArray, List.set_cons_zero, List.set_cons_succ, i64_w, i32_w]
              rfl
            refine take_ (i := 3) (N := some 46) (v := ?_) (a' := ?_) #[true, true, false, true, false, false, false, false] rfl rfl (take_ofW HT_.out HW_.out (by kernel_rfl)) (fun _ _ _ h => h) (Or.inl ⟨by rfl, ?_⟩) hHeld ?_ ?_
            rotate_left
            · rintro w' ⟨s0, s1, s2, s3⟩
              go_simp
              with_reducible rfl
            rotate_left
            · simp only [Act.put, List.setIfInBounds_toArray, List.set_cons_zero, List.set_cons_succ, i64_w, i32_w]
              rfl
            refine take_ (i := 4) (N := some 47) (v := ?_) (a' := ?_) #[true, true, false, true, true, false, false, false] rfl rfl (take_ofW HT_.out HW_.out (by kernel_rfl)) (fun _ _ _ h => h) (Or.inl ⟨by rfl, ?_⟩) hHeld ?_ ?_
            rotate_left
            · rintro w' ⟨s0, s1, s2, s3⟩
              go_simp
              with_reducible rfl
            rotate_left
            · simp only [Act.put, List.setIfInBounds_toArray, List.set_cons_zero, List.set_cons_succ, i64_w, i32_w]
              rfl
            refine one_ (i := 2) (N := some 45) #[true, true, true, true, true, false, false, false] rfl rfl (one_of HT_.out (by kernel_rfl)) (by decide) (fun K hK => ?_)
            refine goes_ Try.func26 (by kernel_rfl) rfl #[.agg #[.int .i64 t143, .int .i64 t144], .agg #[.int .i64 t145, .int .i64 t146]] (by rfl) rfl rfl (by (try simp only [List.map_toArray, List.map_cons, List.map_nil]); first | done | rfl | (simp only [List.length_drop, List.length_take]; rfl)) ?_
            with_reducible refine (impl_VerLess.calls kj6 t143 t144 t145 t146 t159 _ A75.out).mono ?_
            rintro e w85 ⟨rfl, hb⟩
            refine ⟨_, rfl, ?_⟩
            have n0_ := Aside0.mk (blk_below (g := gb147) (o := .cells #[.int .i64 t143, .int .i64 t144] 39 (0, 0)) (by (with_reducible repeat (first | refine blk_drewN ?_ _ | refine blk_drew ?_ | refine blk_alloc ?_ _)); exact BK147.out) hb)
            have n1_ := Aside0.mk (blk_below (g := gb148) (o := .cells #[.int .i64 t145, .int .i64 t146] 39 (0, 0)) (by (with_reducible repeat (first | refine blk_drewN ?_ _ | refine blk_drew ?_ | refine blk_alloc ?_ _)); exact BK148.out) hb)
            have n2_ := Aside0.mk (blk_below (g := gb153) (o := .cells #[.int .i64 t149, .int .i64 t150] 39 (0, 0)) (by (with_reducible repeat (first | refine blk_drewN ?_ _ | refine blk_drew ?_ | refine blk_alloc ?_ _)); exact BK153.out) hb)
            have n3_ := Aside0.mk (blk_below (g := gb154) (o := .cells #[.int .i64 t151, .int .i64 t152] 39 (0, 0)) (by (with_reducible repeat (first | refine blk_drewN ?_ _ | refine blk_drew ?_ | refine blk_alloc ?_ _)); exact BK154.out) hb)
            have n4_ := Aside0.mk (below_step (by repeat (first | (with_reducible first | exact HB.out | apply below_alloc | apply pw_below_drewN | apply below_drew1 | refine below_set ?_ GE147.out | refine below_set ?_ GE148.out | refine below_set ?_ GE153.out | refine below_set ?_ GE154.out) | exact HB.out)) hb)
            clear BK147
            clear BK148
            clear BK153
            clear BK154
            clear HB
            have BK147 := n0_
            have BK148 := n1_
            have BK153 := n2_
            have BK154 := n3_
            have HB := n4_
            clear n0_ n1_ n2_ n3_ n4_
            (try clear hb)
            (try clear hb2)
            (try clear hk)
            (try clear hi)
            refine hK.out _ _ ⟨(blk_cell BK147.out 0).trans rfl, (blk_cell BK147.out 1).trans rfl, (blk_cell BK148.out 0).trans rfl, (blk_cell BK148.out 1).trans rfl⟩ (fun hHeld => ?_)
            clear hK K
            refine norm_ (a' := ?_) ?_ ?_
            rotate_left
            · show Act.put _ (some 45) _ = _
              simp only [Act.put, List.setIfInBounds_toArray, List.set_cons_zero, List.set_cons_succ, i64_w, i32_w]
              rfl
            refine one_ (i := 5) (N := some 48) #[true, true, true, true, true, true, false, false] rfl rfl (one_of HT_.out (by kernel_rfl)) (by decide) (fun K hK => ?_)
            refine goes_ Try.func26 (by kernel_rfl) rfl #[.agg #[.int .i64 t145, .int .i64 t146], .agg #[.int .i64 t143, .int .i64 t144]] (by rfl) rfl rfl (by (try simp only [List.map_toArray, List.map_cons, List.map_nil]); first | done | rfl | (simp only [List.length_drop, List.length_take]; rfl)) ?_
            with_reducible refine (impl_VerLess.calls kj6 t145 t146 t143 t144 t160 _ A76.out).mono ?_
            rintro e w86 ⟨rfl, hb⟩
            refine ⟨_, rfl, ?_⟩
            have n0_ := Aside0.mk (blk_below (g := gb147) (o := .cells #[.int .i64 t143, .int .i64 t144] 39 (0, 0)) (by (with_reducible repeat (first | refine blk_drewN ?_ _ | refine blk_drew ?_ | refine blk_alloc ?_ _)); exact BK147.out) hb)
            have n1_ := Aside0.mk (blk_below (g := gb148) (o := .cells #[.int .i64 t145, .int .i64 t146] 39 (0, 0)) (by (with_reducible repeat (first | refine blk_drewN ?_ _ | refine blk_drew ?_ | refine blk_alloc ?_ _)); exact BK148.out) hb)
            have n2_ := Aside0.mk (blk_below (g := gb153) (o := .cells #[.int .i64 t149, .int .i64 t150] 39 (0, 0)) (by (with_reducible repeat (first | refine blk_drewN ?_ _ | refine blk_drew ?_ | refine blk_alloc ?_ _)); exact BK153.out) hb)
            have n3_ := Aside0.mk (blk_below (g := gb154) (o := .cells #[.int .i64 t151, .int .i64 t152] 39 (0, 0)) (by (with_reducible repeat (first | refine blk_drewN ?_ _ | refine blk_drew ?_ | refine blk_alloc ?_ _)); exact BK154.out) hb)
            have n4_ := Aside0.mk (below_step (by repeat (first | (with_reducible first | exact HB.out | apply below_alloc | apply pw_below_drewN | apply below_drew1 | refine below_set ?_ GE147.out | refine below_set ?_ GE148.out | refine below_set ?_ GE153.out | refine below_set ?_ GE154.out) | exact HB.out)) hb)
            clear BK147
            clear BK148
            clear BK153
            clear BK154
            clear HB
            have BK147 := n0_
            have BK148 := n1_
            have BK153 := n2_
            have BK154 := n3_
            have HB := n4_
            clear n0_ n1_ n2_ n3_ n4_
            (try clear hb)
            (try clear hb2)
            (try clear hk)
            (try clear hi)
            refine hK.out _ _ ⟨(blk_cell BK147.out 0).trans rfl, (blk_cell BK147.out 1).trans rfl, (blk_cell BK148.out 0).trans rfl, (blk_cell BK148.out 1).trans rfl⟩ (fun hHeld => ?_)
            clear hK K
            refine norm_ (a' := ?_) ?_ ?_
            rotate_left
            · show Act.put _ (some 48) _ = _
              simp only [Act.put, List.setIfInBounds_toArray, List.set_cons_zero, List.set_cons_succ, i64_w, i32_w]
              rfl
            refine pure_ (i := 6) (N := some 49) (v := ?_) (a' := ?_) #[true, true, true, true, true, true, true, false] rfl rfl (any_of HT_.out (by kernel_rfl)) (fun _ _ _ h => h) (Or.inl ⟨by rfl, ?_⟩) ?_ ?_
            rotate_left
            · intro w'
              go_simp
              with_reducible rfl
            rotate_left
            · simp only [Act.put, List.setIfInBounds_toArray, List.set_cons_zero, List.set_cons_succ, i64_w, i32_w]
              rfl
            refine pure_ (i := 7) (N := some 4) (v := ?_) (a' := ?_) #[true, true, true, true, true, true, true, true] rfl rfl (any_of HT_.out (by kernel_rfl)) (fun _ _ _ h => h) (Or.inl ⟨by rfl, ?_⟩) ?_ ?_
            rotate_left
            · intro w'
              go_simp
              with_reducible rfl
            rotate_left
            · simp only [Act.put, List.setIfInBounds_toArray, List.set_cons_zero, List.set_cons_succ, i64_w, i32_w]
              rfl
            refine done_ (done_of HT_.out (by kernel_rfl)) ?_
            try go_wp2
            go_ret
            exact ⟨by first | rfl | (simp [errW_none, errW_some] <;> rfl) | (simp [*, errW_none, errW_some] <;> rfl), by repeat (first | (with_reducible first | exact HB.out | apply below_alloc | apply pw_below_drewN | apply below_drew1 | refine below_set ?_ GE147.out | refine below_set ?_ GE148.out | refine below_set ?_ GE153.out | refine below_set ?_ GE154.out) | exact HB.out)⟩

/-- THE ONE PURE STATEMENT of laws_FnVers: yours. -/
def laws_FnVers.Pure : Prop := ∀ (l0 : List Int) (l1 : List Int), l0.length ≤ maxLen → l0.length * 1 ≤ 140737488351232 → (∀ x ∈ l0, (Lit.int .u8 x).wf = true) → l1.length ≤ maxLen → l1.length * 1 ≤ 140737488351232 → (∀ x ∈ l1, (Lit.int .u8 x).wf = true) → ∃ k, laws_FnVers.f k l0 l1 = some true
theorem laws_FnVers.walk (P : laws_FnVers.Pure) (a0 : Option Addr) (len0 cap0 : Nat) (z0 : List Int) (a1 : Option Addr) (len1 cap1 : Nat) (z1 : List Int) (w : World) (w0 : (a0 = none ∧ len0 = 0 ∧ cap0 = 0 ∧ z0 = []) ∨ ∃ x, a0 = some x ∧ len0 ≤ cap0 ∧ cap0 ≤ maxLen ∧ z0.length = cap0 ∧ (∀ i, i < z0.length → w.cell? (x.add i) = some (.int .u8 (z0.getD i 0))) ∧ ∀ n ∈ z0, (Lit.int .u8 n).wf = true) (y0 : len0 * 1 ≤ 140737488351232) (w1 : (a1 = none ∧ len1 = 0 ∧ cap1 = 0 ∧ z1 = []) ∨ ∃ x, a1 = some x ∧ len1 ≤ cap1 ∧ cap1 ≤ maxLen ∧ z1.length = cap1 ∧ (∀ i, i < z1.length → w.cell? (x.add i) = some (.int .u8 (z1.getD i 0))) ∧ ∀ n ∈ z1, (Lit.int .u8 n).wf = true) (y1 : len1 * 1 ≤ 140737488351232) :
    Calls Try.prog 8 #[.slice a0 len0 cap0, .slice a1 len1 cap1] w fun e w' => e = .returned (.bool true) ∧ Below w.heap.size w w' := by
  obtain ⟨l0, rfl, hr0, hm0, hw0, hc0⟩ := ReadsInt.ofRowC w0
  obtain ⟨l1, rfl, hr1, hm1, hw1, hc1⟩ := ReadsInt.ofRowC w1
  obtain ⟨k, h⟩ := P l0 l1 hm0 y0 hw0 hm1 y1 hw1
  refine (laws_FnVers.calls k _ _ l0 _ _ l1 true w (Kd.C_of_reads (d := (0 : Int)) (h1 := fun _ => rfl) hr0) hc0 (Kd.C_of_reads (d := (0 : Int)) (h1 := fun _ => rfl) hr1) hc1 h).mono ?_
  rintro e w' ⟨rfl, hd⟩
  exact ⟨rfl, hd⟩

end Go.Proofs.Ytchajonibjacaaa.MFnVers
