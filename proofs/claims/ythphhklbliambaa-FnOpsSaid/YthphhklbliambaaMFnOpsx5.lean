-- Written by a program of this session (wip/tools/myprint.py) over the kit's print: it is not the kit's print.
import Derived.Test.YthphhklbliambaaExtra
import Derived.Laws.AppendOwn
import Derived.Laws.BytesArg
import Derived.Lib.ConvBytes
import Derived.Test.YthphhklbliambaaMFnOpsx0
import Derived.Test.YthphhklbliambaaMFnOpsx4
namespace Go.Proofs.Ythphhklbliambaa.MFnOps
open Go.RowKit Go.Proofs.YthphhklbliambaaW.PrintWords Go.Proofs.YthphhklbliambaaW.PrintLast Go.Proofs.YthphhklbliambaaW.PrintMore
open List renaming setIfInBounds_toArray → sit, set_cons_zero → scz, set_cons_succ → scs, map_toArray → mta, map_cons → mco, map_nil → mni, length_drop → lnd, length_take → lnt
attribute [local go_sem] max2_int min2_int max_two min_two max_three min_three max_four min_four   -- for this text's walks alone
set_option linter.unusedVariables false
set_option linter.unusedSimpArgs false

/-! ### spec_OpOk: function 53 -/
def spec_OpOk.j0 : Nat → Bool → Bool → Int → Bool → Int → Int → Int → Int → ByteArray → Option (Bool)
 | 0, _, _, _, _, _, _, _, _, _ => none
 | k + 1, x5, x6, x18, x19, x155000, x155001, x156000, x156001, x156002 => if x19 = true then (if x156001 = 0 then (some (x156002.toList == ([] : List UInt8))) else (some false)) else (if x18 = 2 then (if x156001 = 0 then (some x5) else (some false)) else (if x18 = 3 then (if x155000 = 1 then (if x6 = true then (some x5) else (some false)) else (some false)) else (if x18 = 4 then (if x155000 = 1 then (if x156001 = 0 then (some x5) else (some false)) else (some false)) else (if x18 = 5 then (if x155000 = 1 then (if x6 = true then (some (x156002.toList == ([] : List UInt8))) else (some false)) else (some false)) else (some false)))))
def spec_OpOk.f (k : Nat) (a0_0 : Int) (a0_1 : Int) (a1_0 : Int) (a1_1 : Int) (a1_2 : ByteArray) : Option (Bool) := (spec_CodeOk.f a0_0 a0_1).bind fun t156 => (if t156 = true then ((spec_l00In.f a1_1 0 64).bind fun t157 => (if a1_0 = 1 then (spec_OpOk.j0 k (decide ((a1_2.size : Int) ≤ 64)) t157 a1_0 (a1_0 == 1) a0_0 a0_1 a1_0 a1_1 a1_2) else (spec_OpOk.j0 k (decide ((a1_2.size : Int) ≤ 64)) t157 a1_0 (a1_0 == 6) a0_0 a0_1 a1_0 a1_1 a1_2))) else (some false))
theorem spec_OpOk.mono_l : ∀ k, (∀ y0 y1 y2 y3 y4 y5 y6 y7 y8, LeO (spec_OpOk.j0 k y0 y1 y2 y3 y4 y5 y6 y7 y8) (spec_OpOk.j0 (k + 1) y0 y1 y2 y3 y4 y5 y6 y7 y8))
 | 0 => fun _ _ _ _ _ _ _ _ _ r h => by simp [spec_OpOk.j0] at h
 | k + 1 => by
  have ih0 := spec_OpOk.mono_l k
  ·intro y0 y1 y2 y3 y4 y5 y6 y7 y8
   unfold spec_OpOk.j0
   repeat' first
   | (with_reducible exact ih0 _ _ _ _ _ _ _ _ _)
   | (with_reducible exact LeO.refl _)
   | (with_reducible exact LeO.none _)
   | (with_reducible refine LeO.ite ?_ ?_)
   | (with_reducible refine LeO.bind ?_ (fun _ => ?_))
   | exact ih0 _ _ _ _ _ _ _ _ _
   | exact LeO.none _
   | refine LeO.ite ?_ ?_
   | refine LeO.bind ?_ (fun _ => ?_)
theorem spec_OpOk.mono : ∀ a0 a1 a2 a3 a4 k, LeO (spec_OpOk.f k a0 a1 a2 a3 a4) (spec_OpOk.f (k + 1) a0 a1 a2 a3 a4) := by
 intro a0 a1 a2 a3 a4 k
 have ih0 := spec_OpOk.mono_l k
 unfold spec_OpOk.f
 repeat' first
   | (with_reducible exact ih0 _ _ _ _ _ _ _ _ _)
   | (with_reducible exact LeO.refl _)
   | (with_reducible exact LeO.none _)
   | (with_reducible refine LeO.ite ?_ ?_)
   | (with_reducible refine LeO.bind ?_ (fun _ => ?_))
   | exact ih0 _ _ _ _ _ _ _ _ _
   | exact LeO.none _
   | refine LeO.ite ?_ ?_
   | refine LeO.bind ?_ (fun _ => ?_)
set_option maxHeartbeats 8000000 in
set_option maxRecDepth 100000 in
theorem spec_OpOk.calls (k : Nat) (a0_0 : Int) (a0_1 : Int) (a1_0 : Int) (a1_1 : Int) (a1_2 : ByteArray) (r : Bool) (w : World) (h : spec_OpOk.f k a0_0 a0_1 a1_0 a1_1 a1_2 = some r) :
  Calls Try.prog 53 #[.agg #[.int .i64 a0_0, .int .i64 a0_1], .agg #[.int .i64 a1_0, .int .i64 a1_1, .string a1_2]] w fun e w' => e = .returned (.bool r) ∧ Below w.heap.size w w' := by
 have hu84 := Try.underlying84
 have hu60 := Try.underlying60
 have HB := am (Below.refl w.heap.size w)
 have H : ((spec_CodeOk.f a0_0 a0_1).bind fun t156 => (if t156 = true then ((spec_l00In.f a1_1 0 64).bind fun t157 => (if a1_0 = 1 then (spec_OpOk.j0 k (decide ((a1_2.size : Int) ≤ 64)) t157 a1_0 (a1_0 == 1) a0_0 a0_1 a1_0 a1_1 a1_2) else (spec_OpOk.j0 k (decide ((a1_2.size : Int) ≤ 64)) t157 a1_0 (a1_0 == 6) a0_0 a0_1 a1_0 a1_1 a1_2))) else (some false))) = some r := h
 clear h
 replace H := Option.bind_eq_some_iff.mp H
 obtain ⟨t156, A30, H⟩ := H
 replace H : (if t156 = true then ((spec_l00In.f a1_1 0 64).bind fun t157 => (if a1_0 = 1 then (spec_OpOk.j0 k (decide ((a1_2.size : Int) ≤ 64)) t157 a1_0 (a1_0 == 1) a0_0 a0_1 a1_0 a1_1 a1_2) else (spec_OpOk.j0 k (decide ((a1_2.size : Int) ≤ 64)) t157 a1_0 (a1_0 == 6) a0_0 a0_1 a1_0 a1_1 a1_2))) else (some false)) = some r := H
 have A3 := am A30
 clear A30
 by_cases c4 : t156 = true
 ·subst c4
  have H1 : ((spec_l00In.f a1_1 0 64).bind fun t157 => (if a1_0 = 1 then (spec_OpOk.j0 k (decide ((a1_2.size : Int) ≤ 64)) t157 a1_0 (a1_0 == 1) a0_0 a0_1 a1_0 a1_1 a1_2) else (spec_OpOk.j0 k (decide ((a1_2.size : Int) ≤ 64)) t157 a1_0 (a1_0 == 6) a0_0 a0_1 a1_0 a1_1 a1_2))) = some r := by rw [if_pos rfl] at H; exact H
  clear H
  have H := H1
  clear H1
  replace H := Option.bind_eq_some_iff.mp H
  obtain ⟨t157, A50, H⟩ := H
  replace H : (if a1_0 = 1 then (spec_OpOk.j0 k (decide ((a1_2.size : Int) ≤ 64)) t157 a1_0 (a1_0 == 1) a0_0 a0_1 a1_0 a1_1 a1_2) else (spec_OpOk.j0 k (decide ((a1_2.size : Int) ≤ 64)) t157 a1_0 (a1_0 == 6) a0_0 a0_1 a1_0 a1_1 a1_2)) = some r := H
  have A5 := am A50
  clear A50
  have HC6 := am H
  clear H
  go_enter Try.func53, Try.ntmps53
  go_upto_if 19 with (first | ((with_reducible refine gate_dst (N := 2) rfl ?_); refine box_event ?hg (N := 2) ?hd (cs := #[.int .i64 a0_0, .int .i64 a0_1]) (t := 84) ?hr ?_; (case hd => rfl); (case hg => rfl); (case hr => first | (go_simp; done) | (go_simp; rfl)); intro gb154 hg w7 hbox hb; have n0_ := am (below_step (by repeat (first | (with_reducible first | exact HB.out | apply bal | apply pdn | apply bd1) | exact HB.out)) hb); have n1_ := am (hbox); have n2_ := am ((by rw [hg]; exact (below_size (by repeat (first | (with_reducible first | exact HB.out | apply bal | apply pdn | apply bd1) | exact HB.out))) : w.heap.size ≤ gb154)); have n3_ := am ((by rw [hg]; exact (below_size (by repeat (first | (with_reducible first | exact HB.out | apply bal | apply pdn | apply bd1) | exact HB.out))) : w.heap.size ≤ gb154)); clear HB; have HB := n0_; have BK154 := n1_; have GW154 := n2_; have GE154 := n3_; clear n0_ n1_ n2_ n3_; clear hb hbox hg) | ((with_reducible refine gate_dst (N := 3) rfl ?_); refine box_event ?hg (N := 3) ?hd (cs := #[.int .i64 a1_0, .int .i64 a1_1, .string a1_2]) (t := 60) ?hr ?_; (case hd => rfl); (case hg => rfl); (case hr => first | (go_simp; done) | (go_simp; rfl)); intro gb155 hg w8 hbox hb; have n0_ := am (kbb (g := gb154) (o := .cells #[.int .i64 a0_0, .int .i64 a0_1] 84 (0, 0)) (by (with_reducible repeat (first | apply kdn | apply kdr | apply kal)); exact BK154.out) hb); have n1_ := am (below_step (by repeat (first | (with_reducible first | exact HB.out | apply bal | apply pdn | apply bd1 | refine bst ?_ GE154.out) | exact HB.out)) hb); have n2_ := am (hbox); have n3_ := am ((by rw [hg]; exact (below_size (by repeat (first | (with_reducible first | exact HB.out | apply bal | apply pdn | apply bd1 | refine bst ?_ GE154.out) | exact HB.out))) : w.heap.size ≤ gb155)); have n4_ := am ((by rw [hg]; exact (below_size (by repeat (first | (with_reducible first | exact HB.out | apply bal | apply pdn | apply bd1 | refine bst ?_ GE154.out) | exact HB.out))) : w.heap.size ≤ gb155)); have n5_ := am ((by rw [hg]; exact Nat.ne_of_lt (blk_lt (g := gb154) (o := .cells #[.int .i64 a0_0, .int .i64 a0_1] 84 (0, 0)) (by (with_reducible repeat (first | apply kdn | apply kdr | apply kal)); exact BK154.out)) : gb154 ≠ gb155)); have n6_ := am ((by rw [hg]; exact Nat.ne_of_gt (blk_lt (g := gb154) (o := .cells #[.int .i64 a0_0, .int .i64 a0_1] 84 (0, 0)) (by (with_reducible repeat (first | apply kdn | apply kdr | apply kal)); exact BK154.out)) : gb155 ≠ gb154)); clear BK154; clear HB; have BK154 := n0_; have HB := n1_; have BK155 := n2_; have GW155 := n3_; have GE155 := n4_; have NB154_155 := n5_; have NB155_154 := n6_; clear n0_ n1_ n2_ n3_ n4_ n5_ n6_; clear hb hbox hg; have hnb9 := NB154_155.out; have hnc9 := NB155_154.out; have hcz10_0 : w8.cell? ⟨gb154, 0, none⟩ = some (.int .i64 a0_0) := (kce BK154.out 0).trans rfl; have hcz10_1 : w8.cell? ⟨gb154, 1, none⟩ = some (.int .i64 a0_1) := (kce BK154.out 1).trans rfl; have hfz10_0 := kfr BK154.out 0; have hfz10_1 := kfr BK154.out 1) | (go_at_call 101; (with_reducible refine (spec_CodeOk.calls a0_0 a0_1 true _ A3.out).mono ?_); rintro e w11 ⟨rfl, hb⟩; have n0_ := am (kbb (g := gb154) (o := .cells #[.int .i64 a0_0, .int .i64 a0_1] 84 (0, 0)) (by (with_reducible repeat (first | apply kdn | apply kdr | apply kal)); exact BK154.out) hb); have n1_ := am (kbb (g := gb155) (o := .cells #[.int .i64 a1_0, .int .i64 a1_1, .string a1_2] 60 (0, 0)) (by (with_reducible repeat (first | apply kdn | apply kdr | apply kal)); exact BK155.out) hb); have n2_ := am (below_step (by repeat (first | (with_reducible first | exact HB.out | apply bal | apply pdn | apply bd1 | refine bst ?_ GE154.out | refine bst ?_ GE155.out) | exact HB.out)) hb); clear BK154; clear BK155; clear HB; have BK154 := n0_; have BK155 := n1_; have HB := n2_; clear n0_ n1_ n2_; (try clear hb); (try clear hb2); (try clear hk); (try clear hi); have hcz12_0 : w11.cell? ⟨gb155, 0, none⟩ = some (.int .i64 a1_0) := (kce BK155.out 0).trans rfl; have hcz12_1 : w11.cell? ⟨gb155, 1, none⟩ = some (.int .i64 a1_1) := (kce BK155.out 1).trans rfl; have hcz12_2 : w11.cell? ⟨gb155, 2, none⟩ = some (.string a1_2) := (kce BK155.out 2).trans rfl; have hfz12_0 := kfr BK155.out 0; have hfz12_1 := kfr BK155.out 1; have hfz12_2 := kfr BK155.out 2) | (go_at_call 57; (with_reducible refine (spec_l00In.calls a1_1 0 64 t157 _ A5.out).mono ?_); rintro e w' ⟨rfl, ⟨nd, rfl⟩⟩; (try first | exact ⟨rfl, _, World.drewN_drewN _ _ _⟩ | exact ⟨rfl, _, Eq.trans (World.drewN_drewN _ _ _) (congrArg (World.drewN _) (Nat.add_assoc _ _ _))⟩)))
  repeat (go_quiet (first | ((with_reducible refine gate_dst (N := 2) rfl ?_); refine box_event ?hg (N := 2) ?hd (cs := #[.int .i64 a0_0, .int .i64 a0_1]) (t := 84) ?hr ?_; (case hd => rfl); (case hg => rfl); (case hr => first | (go_simp; done) | (go_simp; rfl)); intro gb154 hg w7 hbox hb; have n0_ := am (below_step (by repeat (first | (with_reducible first | exact HB.out | apply bal | apply pdn | apply bd1) | exact HB.out)) hb); have n1_ := am (hbox); have n2_ := am ((by rw [hg]; exact (below_size (by repeat (first | (with_reducible first | exact HB.out | apply bal | apply pdn | apply bd1) | exact HB.out))) : w.heap.size ≤ gb154)); have n3_ := am ((by rw [hg]; exact (below_size (by repeat (first | (with_reducible first | exact HB.out | apply bal | apply pdn | apply bd1) | exact HB.out))) : w.heap.size ≤ gb154)); clear HB; have HB := n0_; have BK154 := n1_; have GW154 := n2_; have GE154 := n3_; clear n0_ n1_ n2_ n3_; clear hb hbox hg) | ((with_reducible refine gate_dst (N := 3) rfl ?_); refine box_event ?hg (N := 3) ?hd (cs := #[.int .i64 a1_0, .int .i64 a1_1, .string a1_2]) (t := 60) ?hr ?_; (case hd => rfl); (case hg => rfl); (case hr => first | (go_simp; done) | (go_simp; rfl)); intro gb155 hg w8 hbox hb; have n0_ := am (kbb (g := gb154) (o := .cells #[.int .i64 a0_0, .int .i64 a0_1] 84 (0, 0)) (by (with_reducible repeat (first | apply kdn | apply kdr | apply kal)); exact BK154.out) hb); have n1_ := am (below_step (by repeat (first | (with_reducible first | exact HB.out | apply bal | apply pdn | apply bd1 | refine bst ?_ GE154.out) | exact HB.out)) hb); have n2_ := am (hbox); have n3_ := am ((by rw [hg]; exact (below_size (by repeat (first | (with_reducible first | exact HB.out | apply bal | apply pdn | apply bd1 | refine bst ?_ GE154.out) | exact HB.out))) : w.heap.size ≤ gb155)); have n4_ := am ((by rw [hg]; exact (below_size (by repeat (first | (with_reducible first | exact HB.out | apply bal | apply pdn | apply bd1 | refine bst ?_ GE154.out) | exact HB.out))) : w.heap.size ≤ gb155)); have n5_ := am ((by rw [hg]; exact Nat.ne_of_lt (blk_lt (g := gb154) (o := .cells #[.int .i64 a0_0, .int .i64 a0_1] 84 (0, 0)) (by (with_reducible repeat (first | apply kdn | apply kdr | apply kal)); exact BK154.out)) : gb154 ≠ gb155)); have n6_ := am ((by rw [hg]; exact Nat.ne_of_gt (blk_lt (g := gb154) (o := .cells #[.int .i64 a0_0, .int .i64 a0_1] 84 (0, 0)) (by (with_reducible repeat (first | apply kdn | apply kdr | apply kal)); exact BK154.out)) : gb155 ≠ gb154)); clear BK154; clear HB; have BK154 := n0_; have HB := n1_; have BK155 := n2_; have GW155 := n3_; have GE155 := n4_; have NB154_155 := n5_; have NB155_154 := n6_; clear n0_ n1_ n2_ n3_ n4_ n5_ n6_; clear hb hbox hg; have hnb9 := NB154_155.out; have hnc9 := NB155_154.out; have hcz10_0 : w8.cell? ⟨gb154, 0, none⟩ = some (.int .i64 a0_0) := (kce BK154.out 0).trans rfl; have hcz10_1 : w8.cell? ⟨gb154, 1, none⟩ = some (.int .i64 a0_1) := (kce BK154.out 1).trans rfl; have hfz10_0 := kfr BK154.out 0; have hfz10_1 := kfr BK154.out 1) | (go_at_call 101; (with_reducible refine (spec_CodeOk.calls a0_0 a0_1 true _ A3.out).mono ?_); rintro e w11 ⟨rfl, hb⟩; have n0_ := am (kbb (g := gb154) (o := .cells #[.int .i64 a0_0, .int .i64 a0_1] 84 (0, 0)) (by (with_reducible repeat (first | apply kdn | apply kdr | apply kal)); exact BK154.out) hb); have n1_ := am (kbb (g := gb155) (o := .cells #[.int .i64 a1_0, .int .i64 a1_1, .string a1_2] 60 (0, 0)) (by (with_reducible repeat (first | apply kdn | apply kdr | apply kal)); exact BK155.out) hb); have n2_ := am (below_step (by repeat (first | (with_reducible first | exact HB.out | apply bal | apply pdn | apply bd1 | refine bst ?_ GE154.out | refine bst ?_ GE155.out) | exact HB.out)) hb); clear BK154; clear BK155; clear HB; have BK154 := n0_; have BK155 := n1_; have HB := n2_; clear n0_ n1_ n2_; (try clear hb); (try clear hb2); (try clear hk); (try clear hi); have hcz12_0 : w11.cell? ⟨gb155, 0, none⟩ = some (.int .i64 a1_0) := (kce BK155.out 0).trans rfl; have hcz12_1 : w11.cell? ⟨gb155, 1, none⟩ = some (.int .i64 a1_1) := (kce BK155.out 1).trans rfl; have hcz12_2 : w11.cell? ⟨gb155, 2, none⟩ = some (.string a1_2) := (kce BK155.out 2).trans rfl; have hfz12_0 := kfr BK155.out 0; have hfz12_1 := kfr BK155.out 1; have hfz12_2 := kfr BK155.out 2) | (go_at_call 57; (with_reducible refine (spec_l00In.calls a1_1 0 64 t157 _ A5.out).mono ?_); rintro e w' ⟨rfl, ⟨nd, rfl⟩⟩; (try first | exact ⟨rfl, _, World.drewN_drewN _ _ _⟩ | exact ⟨rfl, _, Eq.trans (World.drewN_drewN _ _ _) (congrArg (World.drewN _) (Nat.add_assoc _ _ _))⟩))); go_upto_if 19 with (first | ((with_reducible refine gate_dst (N := 2) rfl ?_); refine box_event ?hg (N := 2) ?hd (cs := #[.int .i64 a0_0, .int .i64 a0_1]) (t := 84) ?hr ?_; (case hd => rfl); (case hg => rfl); (case hr => first | (go_simp; done) | (go_simp; rfl)); intro gb154 hg w7 hbox hb; have n0_ := am (below_step (by repeat (first | (with_reducible first | exact HB.out | apply bal | apply pdn | apply bd1) | exact HB.out)) hb); have n1_ := am (hbox); have n2_ := am ((by rw [hg]; exact (below_size (by repeat (first | (with_reducible first | exact HB.out | apply bal | apply pdn | apply bd1) | exact HB.out))) : w.heap.size ≤ gb154)); have n3_ := am ((by rw [hg]; exact (below_size (by repeat (first | (with_reducible first | exact HB.out | apply bal | apply pdn | apply bd1) | exact HB.out))) : w.heap.size ≤ gb154)); clear HB; have HB := n0_; have BK154 := n1_; have GW154 := n2_; have GE154 := n3_; clear n0_ n1_ n2_ n3_; clear hb hbox hg) | ((with_reducible refine gate_dst (N := 3) rfl ?_); refine box_event ?hg (N := 3) ?hd (cs := #[.int .i64 a1_0, .int .i64 a1_1, .string a1_2]) (t := 60) ?hr ?_; (case hd => rfl); (case hg => rfl); (case hr => first | (go_simp; done) | (go_simp; rfl)); intro gb155 hg w8 hbox hb; have n0_ := am (kbb (g := gb154) (o := .cells #[.int .i64 a0_0, .int .i64 a0_1] 84 (0, 0)) (by (with_reducible repeat (first | apply kdn | apply kdr | apply kal)); exact BK154.out) hb); have n1_ := am (below_step (by repeat (first | (with_reducible first | exact HB.out | apply bal | apply pdn | apply bd1 | refine bst ?_ GE154.out) | exact HB.out)) hb); have n2_ := am (hbox); have n3_ := am ((by rw [hg]; exact (below_size (by repeat (first | (with_reducible first | exact HB.out | apply bal | apply pdn | apply bd1 | refine bst ?_ GE154.out) | exact HB.out))) : w.heap.size ≤ gb155)); have n4_ := am ((by rw [hg]; exact (below_size (by repeat (first | (with_reducible first | exact HB.out | apply bal | apply pdn | apply bd1 | refine bst ?_ GE154.out) | exact HB.out))) : w.heap.size ≤ gb155)); have n5_ := am ((by rw [hg]; exact Nat.ne_of_lt (blk_lt (g := gb154) (o := .cells #[.int .i64 a0_0, .int .i64 a0_1] 84 (0, 0)) (by (with_reducible repeat (first | apply kdn | apply kdr | apply kal)); exact BK154.out)) : gb154 ≠ gb155)); have n6_ := am ((by rw [hg]; exact Nat.ne_of_gt (blk_lt (g := gb154) (o := .cells #[.int .i64 a0_0, .int .i64 a0_1] 84 (0, 0)) (by (with_reducible repeat (first | apply kdn | apply kdr | apply kal)); exact BK154.out)) : gb155 ≠ gb154)); clear BK154; clear HB; have BK154 := n0_; have HB := n1_; have BK155 := n2_; have GW155 := n3_; have GE155 := n4_; have NB154_155 := n5_; have NB155_154 := n6_; clear n0_ n1_ n2_ n3_ n4_ n5_ n6_; clear hb hbox hg; have hnb9 := NB154_155.out; have hnc9 := NB155_154.out; have hcz10_0 : w8.cell? ⟨gb154, 0, none⟩ = some (.int .i64 a0_0) := (kce BK154.out 0).trans rfl; have hcz10_1 : w8.cell? ⟨gb154, 1, none⟩ = some (.int .i64 a0_1) := (kce BK154.out 1).trans rfl; have hfz10_0 := kfr BK154.out 0; have hfz10_1 := kfr BK154.out 1) | (go_at_call 101; (with_reducible refine (spec_CodeOk.calls a0_0 a0_1 true _ A3.out).mono ?_); rintro e w11 ⟨rfl, hb⟩; have n0_ := am (kbb (g := gb154) (o := .cells #[.int .i64 a0_0, .int .i64 a0_1] 84 (0, 0)) (by (with_reducible repeat (first | apply kdn | apply kdr | apply kal)); exact BK154.out) hb); have n1_ := am (kbb (g := gb155) (o := .cells #[.int .i64 a1_0, .int .i64 a1_1, .string a1_2] 60 (0, 0)) (by (with_reducible repeat (first | apply kdn | apply kdr | apply kal)); exact BK155.out) hb); have n2_ := am (below_step (by repeat (first | (with_reducible first | exact HB.out | apply bal | apply pdn | apply bd1 | refine bst ?_ GE154.out | refine bst ?_ GE155.out) | exact HB.out)) hb); clear BK154; clear BK155; clear HB; have BK154 := n0_; have BK155 := n1_; have HB := n2_; clear n0_ n1_ n2_; (try clear hb); (try clear hb2); (try clear hk); (try clear hi); have hcz12_0 : w11.cell? ⟨gb155, 0, none⟩ = some (.int .i64 a1_0) := (kce BK155.out 0).trans rfl; have hcz12_1 : w11.cell? ⟨gb155, 1, none⟩ = some (.int .i64 a1_1) := (kce BK155.out 1).trans rfl; have hcz12_2 : w11.cell? ⟨gb155, 2, none⟩ = some (.string a1_2) := (kce BK155.out 2).trans rfl; have hfz12_0 := kfr BK155.out 0; have hfz12_1 := kfr BK155.out 1; have hfz12_2 := kfr BK155.out 2) | (go_at_call 57; (with_reducible refine (spec_l00In.calls a1_1 0 64 t157 _ A5.out).mono ?_); rintro e w' ⟨rfl, ⟨nd, rfl⟩⟩; (try first | exact ⟨rfl, _, World.drewN_drewN _ _ _⟩ | exact ⟨rfl, _, Eq.trans (World.drewN_drewN _ _ _) (congrArg (World.drewN _) (Nat.add_assoc _ _ _))⟩))))
  (try simp only [Act.put, sit, scz, scs])
  go_cut [19] (fun v19 wc => ∃ (kq : Nat) (x19_5 : Bool), v19 = .bool x19_5 ∧ Aside0 (spec_OpOk.j0 kq (decide ((a1_2.size : Int) ≤ 64)) t157 a1_0 x19_5 a0_0 a0_1 a1_0 a1_1 a1_2 = some r) ∧ Aside0 (kq ≤ k) ∧ Aside0 (wc.heap[gb154]? = some (.cells #[.int .i64 a0_0, .int .i64 a0_1] 84 (0, 0))) ∧ Aside0 (wc.heap[gb155]? = some (.cells #[.int .i64 a1_0, .int .i64 a1_1, .string a1_2] 60 (0, 0))) ∧ Aside0 (Below w.heap.size w wc))
  case first =>
   have H := HC6.out
   clear HC6
   by_cases c13 : a1_0 = 1
   ·rw [if_pos c13] at H
    have c13b0 : (a1_0 == 1) = true := beq_iff_eq.mpr c13
    have c13b1 : (a1_0 != 1) = false := bne_eq_false_iff_eq.mpr c13
    clear c13
    (first | rw [c13b0] | (simp only [i64_w, i32_w]; rw [c13b0]) | skip)
    have H' := am H
    clear H
    go_wp2
    repeat (go_quiet (fail); try go_wp2)
    go_meet
    case rel => exact ⟨_, ((a1_0 == 1)), (by first | rfl | (simp; done) | (simp [*]; done)), H', ⟨by first | omega | exact Nat.le_refl _⟩, ⟨by (with_reducible repeat (first | apply kdn | apply kdr | apply kal)); exact BK154.out⟩, ⟨by (with_reducible repeat (first | apply kdn | apply kdr | apply kal)); exact BK155.out⟩, ⟨by repeat (first | (with_reducible first | exact HB.out | apply bal | apply pdn | apply bd1 | refine bst ?_ GE154.out | refine bst ?_ GE155.out) | exact HB.out)⟩⟩
   ·rw [if_neg c13] at H
    have c13b0 : (a1_0 == 1) = false := beq_eq_false_iff_ne.mpr c13
    have c13b1 : (a1_0 != 1) = true := bne_iff_ne.mpr c13
    (first | rw [c13b0] | (simp only [i64_w, i32_w]; rw [c13b0]) | skip)
    have H' := am H
    clear H
    go_wp2
    repeat (go_quiet (fail); try go_wp2)
    go_meet
    case rel => exact ⟨_, ((a1_0 == 6)), (by first | rfl | (simp; done) | (simp [*]; done)), H', ⟨by first | omega | exact Nat.le_refl _⟩, ⟨by (with_reducible repeat (first | apply kdn | apply kdr | apply kal)); exact BK154.out⟩, ⟨by (with_reducible repeat (first | apply kdn | apply kdr | apply kal)); exact BK155.out⟩, ⟨by repeat (first | (with_reducible first | exact HB.out | apply bal | apply pdn | apply bd1 | refine bst ?_ GE154.out | refine bst ?_ GE155.out) | exact HB.out)⟩⟩
  case rest =>
   clear HC6
   obtain ⟨kq, x19_5, rfl, HA, HJ5, BK154, BK155, HB⟩ := hcut
   cases kq with
   | zero => exact absurd HA.out (by simp [spec_OpOk.j0])
   | succ kj5 =>
    have H := HA.out
    clear HA
    simp only [spec_OpOk.j0] at H
    by_cases c14 : x19_5 = true
    ·subst c14
     have H1 : (if a1_1 = 0 then (some (a1_2.toList == ([] : List UInt8))) else (some false)) = some r := by rw [if_pos rfl] at H; exact H
     clear H
     have H := H1
     clear H1
     by_cases c15 : a1_1 = 0
     ·rw [if_pos c15] at H
      have c15b0 : (a1_1 == 0) = true := beq_iff_eq.mpr c15
      have c15b1 : (a1_1 != 0) = false := bne_eq_false_iff_eq.mpr c15
      clear c15
      obtain rfl := Option.some.inj H
      have hnb16 := NB155_154.out
      have hnc16 := NB154_155.out
      have hcz17_0 : wc.cell? ⟨gb155, 0, none⟩ = some (.int .i64 a1_0) := (kce BK155.out 0).trans rfl
      have hcz17_1 : wc.cell? ⟨gb155, 1, none⟩ = some (.int .i64 a1_1) := (kce BK155.out 1).trans rfl
      have hcz17_2 : wc.cell? ⟨gb155, 2, none⟩ = some (.string a1_2) := (kce BK155.out 2).trans rfl
      have hfz17_0 := kfr BK155.out 0
      have hfz17_1 := kfr BK155.out 1
      have hfz17_2 := kfr BK155.out 2
      go_wp2
      repeat (go_quiet (fail); try go_wp2)
      go_ret
      exact ⟨by first | rfl | (simp [errW_none, errW_some] <;> rfl) | (simp [*, errW_none, errW_some] <;> rfl), by repeat (first | (with_reducible first | exact HB.out | apply bal | apply pdn | apply bd1 | refine bst ?_ GE154.out | refine bst ?_ GE155.out) | exact HB.out)⟩
     ·rw [if_neg c15] at H
      have c15b0 : (a1_1 == 0) = false := beq_eq_false_iff_ne.mpr c15
      have c15b1 : (a1_1 != 0) = true := bne_iff_ne.mpr c15
      obtain rfl := Option.some.inj H
      have hnb18 := NB155_154.out
      have hnc18 := NB154_155.out
      have hcz19_0 : wc.cell? ⟨gb155, 0, none⟩ = some (.int .i64 a1_0) := (kce BK155.out 0).trans rfl
      have hcz19_1 : wc.cell? ⟨gb155, 1, none⟩ = some (.int .i64 a1_1) := (kce BK155.out 1).trans rfl
      have hcz19_2 : wc.cell? ⟨gb155, 2, none⟩ = some (.string a1_2) := (kce BK155.out 2).trans rfl
      have hfz19_0 := kfr BK155.out 0
      have hfz19_1 := kfr BK155.out 1
      have hfz19_2 := kfr BK155.out 2
      go_wp2
      repeat (go_quiet (fail); try go_wp2)
      go_ret
      exact ⟨by first | rfl | (simp [errW_none, errW_some] <;> rfl) | (simp [*, errW_none, errW_some] <;> rfl), by repeat (first | (with_reducible first | exact HB.out | apply bal | apply pdn | apply bd1 | refine bst ?_ GE154.out | refine bst ?_ GE155.out) | exact HB.out)⟩
    ·replace c14 := Bool.eq_false_iff.mpr c14
     subst c14
     have H1 : (if a1_0 = 2 then (if a1_1 = 0 then (some (decide ((a1_2.size : Int) ≤ 64))) else (some false)) else (if a1_0 = 3 then (if a0_0 = 1 then (if t157 = true then (some (decide ((a1_2.size : Int) ≤ 64))) else (some false)) else (some false)) else (if a1_0 = 4 then (if a0_0 = 1 then (if a1_1 = 0 then (some (decide ((a1_2.size : Int) ≤ 64))) else (some false)) else (some false)) else (if a1_0 = 5 then (if a0_0 = 1 then (if t157 = true then (some (a1_2.toList == ([] : List UInt8))) else (some false)) else (some false)) else (some false))))) = some r := by rw [if_neg (show ¬ (false = true) by decide)] at H; exact H
     clear H
     have H := H1
     clear H1
     by_cases c20 : a1_0 = 2
     ·rw [if_pos c20] at H
      have c20b0 : (a1_0 == 2) = true := beq_iff_eq.mpr c20
      have c20b1 : (a1_0 != 2) = false := bne_eq_false_iff_eq.mpr c20
      clear c20
      by_cases c21 : a1_1 = 0
      ·rw [if_pos c21] at H
       have c21b0 : (a1_1 == 0) = true := beq_iff_eq.mpr c21
       have c21b1 : (a1_1 != 0) = false := bne_eq_false_iff_eq.mpr c21
       clear c21
       obtain rfl := Option.some.inj H
       have hnb22 := NB155_154.out
       have hnc22 := NB154_155.out
       have hcz23_0 : wc.cell? ⟨gb155, 0, none⟩ = some (.int .i64 a1_0) := (kce BK155.out 0).trans rfl
       have hcz23_1 : wc.cell? ⟨gb155, 1, none⟩ = some (.int .i64 a1_1) := (kce BK155.out 1).trans rfl
       have hcz23_2 : wc.cell? ⟨gb155, 2, none⟩ = some (.string a1_2) := (kce BK155.out 2).trans rfl
       have hfz23_0 := kfr BK155.out 0
       have hfz23_1 := kfr BK155.out 1
       have hfz23_2 := kfr BK155.out 2
       go_wp2
       repeat (go_quiet (fail); try go_wp2)
       go_ret
       exact ⟨by first | rfl | (simp [errW_none, errW_some] <;> rfl) | (simp [*, errW_none, errW_some] <;> rfl), by repeat (first | (with_reducible first | exact HB.out | apply bal | apply pdn | apply bd1 | refine bst ?_ GE154.out | refine bst ?_ GE155.out) | exact HB.out)⟩
      ·rw [if_neg c21] at H
       have c21b0 : (a1_1 == 0) = false := beq_eq_false_iff_ne.mpr c21
       have c21b1 : (a1_1 != 0) = true := bne_iff_ne.mpr c21
       obtain rfl := Option.some.inj H
       have hnb24 := NB155_154.out
       have hnc24 := NB154_155.out
       have hcz25_0 : wc.cell? ⟨gb155, 0, none⟩ = some (.int .i64 a1_0) := (kce BK155.out 0).trans rfl
       have hcz25_1 : wc.cell? ⟨gb155, 1, none⟩ = some (.int .i64 a1_1) := (kce BK155.out 1).trans rfl
       have hcz25_2 : wc.cell? ⟨gb155, 2, none⟩ = some (.string a1_2) := (kce BK155.out 2).trans rfl
       have hfz25_0 := kfr BK155.out 0
       have hfz25_1 := kfr BK155.out 1
       have hfz25_2 := kfr BK155.out 2
       go_wp2
       repeat (go_quiet (fail); try go_wp2)
       go_ret
       exact ⟨by first | rfl | (simp [errW_none, errW_some] <;> rfl) | (simp [*, errW_none, errW_some] <;> rfl), by repeat (first | (with_reducible first | exact HB.out | apply bal | apply pdn | apply bd1 | refine bst ?_ GE154.out | refine bst ?_ GE155.out) | exact HB.out)⟩
     ·rw [if_neg c20] at H
      have c20b0 : (a1_0 == 2) = false := beq_eq_false_iff_ne.mpr c20
      have c20b1 : (a1_0 != 2) = true := bne_iff_ne.mpr c20
      by_cases c26 : a1_0 = 3
      ·rw [if_pos c26] at H
       have c26b0 : (a1_0 == 3) = true := beq_iff_eq.mpr c26
       have c26b1 : (a1_0 != 3) = false := bne_eq_false_iff_eq.mpr c26
       clear c26
       by_cases c27 : a0_0 = 1
       ·rw [if_pos c27] at H
        have c27b0 : (a0_0 == 1) = true := beq_iff_eq.mpr c27
        have c27b1 : (a0_0 != 1) = false := bne_eq_false_iff_eq.mpr c27
        clear c27
        by_cases c28 : t157 = true
        ·subst c28
         have H1 : (some (decide ((a1_2.size : Int) ≤ 64))) = some r := by rw [if_pos rfl] at H; exact H
         clear H
         have H := H1
         clear H1
         obtain rfl := Option.some.inj H
         have hnb29 := NB154_155.out
         have hnc29 := NB155_154.out
         have hcz30_0 : wc.cell? ⟨gb154, 0, none⟩ = some (.int .i64 a0_0) := (kce BK154.out 0).trans rfl
         have hcz30_1 : wc.cell? ⟨gb154, 1, none⟩ = some (.int .i64 a0_1) := (kce BK154.out 1).trans rfl
         have hfz30_0 := kfr BK154.out 0
         have hfz30_1 := kfr BK154.out 1
         go_wp2
         repeat (go_quiet (fail); try go_wp2)
         go_ret
         exact ⟨by first | rfl | (simp [errW_none, errW_some] <;> rfl) | (simp [*, errW_none, errW_some] <;> rfl), by repeat (first | (with_reducible first | exact HB.out | apply bal | apply pdn | apply bd1 | refine bst ?_ GE154.out | refine bst ?_ GE155.out) | exact HB.out)⟩
        ·replace c28 := Bool.eq_false_iff.mpr c28
         subst c28
         have H1 : (some false) = some r := by rw [if_neg (show ¬ (false = true) by decide)] at H; exact H
         clear H
         have H := H1
         clear H1
         obtain rfl := Option.some.inj H
         have hnb31 := NB154_155.out
         have hnc31 := NB155_154.out
         have hcz32_0 : wc.cell? ⟨gb154, 0, none⟩ = some (.int .i64 a0_0) := (kce BK154.out 0).trans rfl
         have hcz32_1 : wc.cell? ⟨gb154, 1, none⟩ = some (.int .i64 a0_1) := (kce BK154.out 1).trans rfl
         have hfz32_0 := kfr BK154.out 0
         have hfz32_1 := kfr BK154.out 1
         go_wp2
         repeat (go_quiet (fail); try go_wp2)
         go_ret
         exact ⟨by first | rfl | (simp [errW_none, errW_some] <;> rfl) | (simp [*, errW_none, errW_some] <;> rfl), by repeat (first | (with_reducible first | exact HB.out | apply bal | apply pdn | apply bd1 | refine bst ?_ GE154.out | refine bst ?_ GE155.out) | exact HB.out)⟩
       ·rw [if_neg c27] at H
        have c27b0 : (a0_0 == 1) = false := beq_eq_false_iff_ne.mpr c27
        have c27b1 : (a0_0 != 1) = true := bne_iff_ne.mpr c27
        obtain rfl := Option.some.inj H
        have hnb33 := NB154_155.out
        have hnc33 := NB155_154.out
        have hcz34_0 : wc.cell? ⟨gb154, 0, none⟩ = some (.int .i64 a0_0) := (kce BK154.out 0).trans rfl
        have hcz34_1 : wc.cell? ⟨gb154, 1, none⟩ = some (.int .i64 a0_1) := (kce BK154.out 1).trans rfl
        have hfz34_0 := kfr BK154.out 0
        have hfz34_1 := kfr BK154.out 1
        go_wp2
        repeat (go_quiet (fail); try go_wp2)
        go_ret
        exact ⟨by first | rfl | (simp [errW_none, errW_some] <;> rfl) | (simp [*, errW_none, errW_some] <;> rfl), by repeat (first | (with_reducible first | exact HB.out | apply bal | apply pdn | apply bd1 | refine bst ?_ GE154.out | refine bst ?_ GE155.out) | exact HB.out)⟩
      ·rw [if_neg c26] at H
       have c26b0 : (a1_0 == 3) = false := beq_eq_false_iff_ne.mpr c26
       have c26b1 : (a1_0 != 3) = true := bne_iff_ne.mpr c26
       by_cases c35 : a1_0 = 4
       ·rw [if_pos c35] at H
        have c35b0 : (a1_0 == 4) = true := beq_iff_eq.mpr c35
        have c35b1 : (a1_0 != 4) = false := bne_eq_false_iff_eq.mpr c35
        clear c35
        by_cases c36 : a0_0 = 1
        ·rw [if_pos c36] at H
         have c36b0 : (a0_0 == 1) = true := beq_iff_eq.mpr c36
         have c36b1 : (a0_0 != 1) = false := bne_eq_false_iff_eq.mpr c36
         clear c36
         by_cases c37 : a1_1 = 0
         ·rw [if_pos c37] at H
          have c37b0 : (a1_1 == 0) = true := beq_iff_eq.mpr c37
          have c37b1 : (a1_1 != 0) = false := bne_eq_false_iff_eq.mpr c37
          clear c37
          obtain rfl := Option.some.inj H
          have hnb38 := NB154_155.out
          have hnc38 := NB155_154.out
          have hcz39_0 : wc.cell? ⟨gb154, 0, none⟩ = some (.int .i64 a0_0) := (kce BK154.out 0).trans rfl
          have hcz39_1 : wc.cell? ⟨gb154, 1, none⟩ = some (.int .i64 a0_1) := (kce BK154.out 1).trans rfl
          have hfz39_0 := kfr BK154.out 0
          have hfz39_1 := kfr BK154.out 1
          have hcz40_0 : wc.cell? ⟨gb155, 0, none⟩ = some (.int .i64 a1_0) := (kce BK155.out 0).trans rfl
          have hcz40_1 : wc.cell? ⟨gb155, 1, none⟩ = some (.int .i64 a1_1) := (kce BK155.out 1).trans rfl
          have hcz40_2 : wc.cell? ⟨gb155, 2, none⟩ = some (.string a1_2) := (kce BK155.out 2).trans rfl
          have hfz40_0 := kfr BK155.out 0
          have hfz40_1 := kfr BK155.out 1
          have hfz40_2 := kfr BK155.out 2
          go_wp2
          repeat (go_quiet (fail); try go_wp2)
          go_ret
          exact ⟨by first | rfl | (simp [errW_none, errW_some] <;> rfl) | (simp [*, errW_none, errW_some] <;> rfl), by repeat (first | (with_reducible first | exact HB.out | apply bal | apply pdn | apply bd1 | refine bst ?_ GE154.out | refine bst ?_ GE155.out) | exact HB.out)⟩
         ·rw [if_neg c37] at H
          have c37b0 : (a1_1 == 0) = false := beq_eq_false_iff_ne.mpr c37
          have c37b1 : (a1_1 != 0) = true := bne_iff_ne.mpr c37
          obtain rfl := Option.some.inj H
          have hnb41 := NB154_155.out
          have hnc41 := NB155_154.out
          have hcz42_0 : wc.cell? ⟨gb154, 0, none⟩ = some (.int .i64 a0_0) := (kce BK154.out 0).trans rfl
          have hcz42_1 : wc.cell? ⟨gb154, 1, none⟩ = some (.int .i64 a0_1) := (kce BK154.out 1).trans rfl
          have hfz42_0 := kfr BK154.out 0
          have hfz42_1 := kfr BK154.out 1
          have hcz43_0 : wc.cell? ⟨gb155, 0, none⟩ = some (.int .i64 a1_0) := (kce BK155.out 0).trans rfl
          have hcz43_1 : wc.cell? ⟨gb155, 1, none⟩ = some (.int .i64 a1_1) := (kce BK155.out 1).trans rfl
          have hcz43_2 : wc.cell? ⟨gb155, 2, none⟩ = some (.string a1_2) := (kce BK155.out 2).trans rfl
          have hfz43_0 := kfr BK155.out 0
          have hfz43_1 := kfr BK155.out 1
          have hfz43_2 := kfr BK155.out 2
          go_wp2
          repeat (go_quiet (fail); try go_wp2)
          go_ret
          exact ⟨by first | rfl | (simp [errW_none, errW_some] <;> rfl) | (simp [*, errW_none, errW_some] <;> rfl), by repeat (first | (with_reducible first | exact HB.out | apply bal | apply pdn | apply bd1 | refine bst ?_ GE154.out | refine bst ?_ GE155.out) | exact HB.out)⟩
        ·rw [if_neg c36] at H
         have c36b0 : (a0_0 == 1) = false := beq_eq_false_iff_ne.mpr c36
         have c36b1 : (a0_0 != 1) = true := bne_iff_ne.mpr c36
         obtain rfl := Option.some.inj H
         have hnb44 := NB154_155.out
         have hnc44 := NB155_154.out
         have hcz45_0 : wc.cell? ⟨gb154, 0, none⟩ = some (.int .i64 a0_0) := (kce BK154.out 0).trans rfl
         have hcz45_1 : wc.cell? ⟨gb154, 1, none⟩ = some (.int .i64 a0_1) := (kce BK154.out 1).trans rfl
         have hfz45_0 := kfr BK154.out 0
         have hfz45_1 := kfr BK154.out 1
         go_wp2
         repeat (go_quiet (fail); try go_wp2)
         go_ret
         exact ⟨by first | rfl | (simp [errW_none, errW_some] <;> rfl) | (simp [*, errW_none, errW_some] <;> rfl), by repeat (first | (with_reducible first | exact HB.out | apply bal | apply pdn | apply bd1 | refine bst ?_ GE154.out | refine bst ?_ GE155.out) | exact HB.out)⟩
       ·rw [if_neg c35] at H
        have c35b0 : (a1_0 == 4) = false := beq_eq_false_iff_ne.mpr c35
        have c35b1 : (a1_0 != 4) = true := bne_iff_ne.mpr c35
        by_cases c46 : a1_0 = 5
        ·rw [if_pos c46] at H
         have c46b0 : (a1_0 == 5) = true := beq_iff_eq.mpr c46
         have c46b1 : (a1_0 != 5) = false := bne_eq_false_iff_eq.mpr c46
         clear c46
         by_cases c47 : a0_0 = 1
         ·rw [if_pos c47] at H
          have c47b0 : (a0_0 == 1) = true := beq_iff_eq.mpr c47
          have c47b1 : (a0_0 != 1) = false := bne_eq_false_iff_eq.mpr c47
          clear c47
          by_cases c48 : t157 = true
          ·subst c48
           have H1 : (some (a1_2.toList == ([] : List UInt8))) = some r := by rw [if_pos rfl] at H; exact H
           clear H
           have H := H1
           clear H1
           obtain rfl := Option.some.inj H
           have hnb49 := NB154_155.out
           have hnc49 := NB155_154.out
           have hcz50_0 : wc.cell? ⟨gb154, 0, none⟩ = some (.int .i64 a0_0) := (kce BK154.out 0).trans rfl
           have hcz50_1 : wc.cell? ⟨gb154, 1, none⟩ = some (.int .i64 a0_1) := (kce BK154.out 1).trans rfl
           have hfz50_0 := kfr BK154.out 0
           have hfz50_1 := kfr BK154.out 1
           have hcz51_0 : wc.cell? ⟨gb155, 0, none⟩ = some (.int .i64 a1_0) := (kce BK155.out 0).trans rfl
           have hcz51_1 : wc.cell? ⟨gb155, 1, none⟩ = some (.int .i64 a1_1) := (kce BK155.out 1).trans rfl
           have hcz51_2 : wc.cell? ⟨gb155, 2, none⟩ = some (.string a1_2) := (kce BK155.out 2).trans rfl
           have hfz51_0 := kfr BK155.out 0
           have hfz51_1 := kfr BK155.out 1
           have hfz51_2 := kfr BK155.out 2
           go_wp2
           repeat (go_quiet (fail); try go_wp2)
           go_ret
           exact ⟨by first | rfl | (simp [errW_none, errW_some] <;> rfl) | (simp [*, errW_none, errW_some] <;> rfl), by repeat (first | (with_reducible first | exact HB.out | apply bal | apply pdn | apply bd1 | refine bst ?_ GE154.out | refine bst ?_ GE155.out) | exact HB.out)⟩
          ·replace c48 := Bool.eq_false_iff.mpr c48
           subst c48
           have H1 : (some false) = some r := by rw [if_neg (show ¬ (false = true) by decide)] at H; exact H
           clear H
           have H := H1
           clear H1
           obtain rfl := Option.some.inj H
           have hnb52 := NB154_155.out
           have hnc52 := NB155_154.out
           have hcz53_0 : wc.cell? ⟨gb154, 0, none⟩ = some (.int .i64 a0_0) := (kce BK154.out 0).trans rfl
           have hcz53_1 : wc.cell? ⟨gb154, 1, none⟩ = some (.int .i64 a0_1) := (kce BK154.out 1).trans rfl
           have hfz53_0 := kfr BK154.out 0
           have hfz53_1 := kfr BK154.out 1
           go_wp2
           repeat (go_quiet (fail); try go_wp2)
           go_ret
           exact ⟨by first | rfl | (simp [errW_none, errW_some] <;> rfl) | (simp [*, errW_none, errW_some] <;> rfl), by repeat (first | (with_reducible first | exact HB.out | apply bal | apply pdn | apply bd1 | refine bst ?_ GE154.out | refine bst ?_ GE155.out) | exact HB.out)⟩
         ·rw [if_neg c47] at H
          have c47b0 : (a0_0 == 1) = false := beq_eq_false_iff_ne.mpr c47
          have c47b1 : (a0_0 != 1) = true := bne_iff_ne.mpr c47
          obtain rfl := Option.some.inj H
          have hnb54 := NB154_155.out
          have hnc54 := NB155_154.out
          have hcz55_0 : wc.cell? ⟨gb154, 0, none⟩ = some (.int .i64 a0_0) := (kce BK154.out 0).trans rfl
          have hcz55_1 : wc.cell? ⟨gb154, 1, none⟩ = some (.int .i64 a0_1) := (kce BK154.out 1).trans rfl
          have hfz55_0 := kfr BK154.out 0
          have hfz55_1 := kfr BK154.out 1
          go_wp2
          repeat (go_quiet (fail); try go_wp2)
          go_ret
          exact ⟨by first | rfl | (simp [errW_none, errW_some] <;> rfl) | (simp [*, errW_none, errW_some] <;> rfl), by repeat (first | (with_reducible first | exact HB.out | apply bal | apply pdn | apply bd1 | refine bst ?_ GE154.out | refine bst ?_ GE155.out) | exact HB.out)⟩
        ·rw [if_neg c46] at H
         have c46b0 : (a1_0 == 5) = false := beq_eq_false_iff_ne.mpr c46
         have c46b1 : (a1_0 != 5) = true := bne_iff_ne.mpr c46
         obtain rfl := Option.some.inj H
         go_wp2
         repeat (go_quiet (fail); try go_wp2)
         go_ret
         exact ⟨by first | rfl | (simp [errW_none, errW_some] <;> rfl) | (simp [*, errW_none, errW_some] <;> rfl), by repeat (first | (with_reducible first | exact HB.out | apply bal | apply pdn | apply bd1 | refine bst ?_ GE154.out | refine bst ?_ GE155.out) | exact HB.out)⟩
 ·replace c4 := Bool.eq_false_iff.mpr c4
  subst c4
  have H1 : (some false) = some r := by rw [if_neg (show ¬ (false = true) by decide)] at H; exact H
  clear H
  have H := H1
  clear H1
  obtain rfl := Option.some.inj H
  go_enter Try.func53, Try.ntmps53
  go_wp2_with (first | ((with_reducible refine gate_dst (N := 2) rfl ?_); refine box_event ?hg (N := 2) ?hd (cs := #[.int .i64 a0_0, .int .i64 a0_1]) (t := 84) ?hr ?_; (case hd => rfl); (case hg => rfl); (case hr => first | (go_simp; done) | (go_simp; rfl)); intro gb154 hg w56 hbox hb; have n0_ := am (below_step (by repeat (first | (with_reducible first | exact HB.out | apply bal | apply pdn | apply bd1) | exact HB.out)) hb); have n1_ := am (hbox); have n2_ := am ((by rw [hg]; exact (below_size (by repeat (first | (with_reducible first | exact HB.out | apply bal | apply pdn | apply bd1) | exact HB.out))) : w.heap.size ≤ gb154)); have n3_ := am ((by rw [hg]; exact (below_size (by repeat (first | (with_reducible first | exact HB.out | apply bal | apply pdn | apply bd1) | exact HB.out))) : w.heap.size ≤ gb154)); clear HB; have HB := n0_; have BK154 := n1_; have GW154 := n2_; have GE154 := n3_; clear n0_ n1_ n2_ n3_; clear hb hbox hg) | ((with_reducible refine gate_dst (N := 3) rfl ?_); refine box_event ?hg (N := 3) ?hd (cs := #[.int .i64 a1_0, .int .i64 a1_1, .string a1_2]) (t := 60) ?hr ?_; (case hd => rfl); (case hg => rfl); (case hr => first | (go_simp; done) | (go_simp; rfl)); intro gb155 hg w57 hbox hb; have n0_ := am (kbb (g := gb154) (o := .cells #[.int .i64 a0_0, .int .i64 a0_1] 84 (0, 0)) (by (with_reducible repeat (first | apply kdn | apply kdr | apply kal)); exact BK154.out) hb); have n1_ := am (below_step (by repeat (first | (with_reducible first | exact HB.out | apply bal | apply pdn | apply bd1 | refine bst ?_ GE154.out) | exact HB.out)) hb); have n2_ := am (hbox); have n3_ := am ((by rw [hg]; exact (below_size (by repeat (first | (with_reducible first | exact HB.out | apply bal | apply pdn | apply bd1 | refine bst ?_ GE154.out) | exact HB.out))) : w.heap.size ≤ gb155)); have n4_ := am ((by rw [hg]; exact (below_size (by repeat (first | (with_reducible first | exact HB.out | apply bal | apply pdn | apply bd1 | refine bst ?_ GE154.out) | exact HB.out))) : w.heap.size ≤ gb155)); have n5_ := am ((by rw [hg]; exact Nat.ne_of_lt (blk_lt (g := gb154) (o := .cells #[.int .i64 a0_0, .int .i64 a0_1] 84 (0, 0)) (by (with_reducible repeat (first | apply kdn | apply kdr | apply kal)); exact BK154.out)) : gb154 ≠ gb155)); have n6_ := am ((by rw [hg]; exact Nat.ne_of_gt (blk_lt (g := gb154) (o := .cells #[.int .i64 a0_0, .int .i64 a0_1] 84 (0, 0)) (by (with_reducible repeat (first | apply kdn | apply kdr | apply kal)); exact BK154.out)) : gb155 ≠ gb154)); clear BK154; clear HB; have BK154 := n0_; have HB := n1_; have BK155 := n2_; have GW155 := n3_; have GE155 := n4_; have NB154_155 := n5_; have NB155_154 := n6_; clear n0_ n1_ n2_ n3_ n4_ n5_ n6_; clear hb hbox hg; have hnb58 := NB154_155.out; have hnc58 := NB155_154.out; have hcz59_0 : w57.cell? ⟨gb154, 0, none⟩ = some (.int .i64 a0_0) := (kce BK154.out 0).trans rfl; have hcz59_1 : w57.cell? ⟨gb154, 1, none⟩ = some (.int .i64 a0_1) := (kce BK154.out 1).trans rfl; have hfz59_0 := kfr BK154.out 0; have hfz59_1 := kfr BK154.out 1) | (go_at_call 101; (with_reducible refine (spec_CodeOk.calls a0_0 a0_1 false _ A3.out).mono ?_); rintro e w60 ⟨rfl, hb⟩; have n0_ := am (kbb (g := gb154) (o := .cells #[.int .i64 a0_0, .int .i64 a0_1] 84 (0, 0)) (by (with_reducible repeat (first | apply kdn | apply kdr | apply kal)); exact BK154.out) hb); have n1_ := am (kbb (g := gb155) (o := .cells #[.int .i64 a1_0, .int .i64 a1_1, .string a1_2] 60 (0, 0)) (by (with_reducible repeat (first | apply kdn | apply kdr | apply kal)); exact BK155.out) hb); have n2_ := am (below_step (by repeat (first | (with_reducible first | exact HB.out | apply bal | apply pdn | apply bd1 | refine bst ?_ GE154.out | refine bst ?_ GE155.out) | exact HB.out)) hb); clear BK154; clear BK155; clear HB; have BK154 := n0_; have BK155 := n1_; have HB := n2_; clear n0_ n1_ n2_; (try clear hb); (try clear hb2); (try clear hk); (try clear hi)))
  repeat (go_quiet (first | ((with_reducible refine gate_dst (N := 2) rfl ?_); refine box_event ?hg (N := 2) ?hd (cs := #[.int .i64 a0_0, .int .i64 a0_1]) (t := 84) ?hr ?_; (case hd => rfl); (case hg => rfl); (case hr => first | (go_simp; done) | (go_simp; rfl)); intro gb154 hg w56 hbox hb; have n0_ := am (below_step (by repeat (first | (with_reducible first | exact HB.out | apply bal | apply pdn | apply bd1) | exact HB.out)) hb); have n1_ := am (hbox); have n2_ := am ((by rw [hg]; exact (below_size (by repeat (first | (with_reducible first | exact HB.out | apply bal | apply pdn | apply bd1) | exact HB.out))) : w.heap.size ≤ gb154)); have n3_ := am ((by rw [hg]; exact (below_size (by repeat (first | (with_reducible first | exact HB.out | apply bal | apply pdn | apply bd1) | exact HB.out))) : w.heap.size ≤ gb154)); clear HB; have HB := n0_; have BK154 := n1_; have GW154 := n2_; have GE154 := n3_; clear n0_ n1_ n2_ n3_; clear hb hbox hg) | ((with_reducible refine gate_dst (N := 3) rfl ?_); refine box_event ?hg (N := 3) ?hd (cs := #[.int .i64 a1_0, .int .i64 a1_1, .string a1_2]) (t := 60) ?hr ?_; (case hd => rfl); (case hg => rfl); (case hr => first | (go_simp; done) | (go_simp; rfl)); intro gb155 hg w57 hbox hb; have n0_ := am (kbb (g := gb154) (o := .cells #[.int .i64 a0_0, .int .i64 a0_1] 84 (0, 0)) (by (with_reducible repeat (first | apply kdn | apply kdr | apply kal)); exact BK154.out) hb); have n1_ := am (below_step (by repeat (first | (with_reducible first | exact HB.out | apply bal | apply pdn | apply bd1 | refine bst ?_ GE154.out) | exact HB.out)) hb); have n2_ := am (hbox); have n3_ := am ((by rw [hg]; exact (below_size (by repeat (first | (with_reducible first | exact HB.out | apply bal | apply pdn | apply bd1 | refine bst ?_ GE154.out) | exact HB.out))) : w.heap.size ≤ gb155)); have n4_ := am ((by rw [hg]; exact (below_size (by repeat (first | (with_reducible first | exact HB.out | apply bal | apply pdn | apply bd1 | refine bst ?_ GE154.out) | exact HB.out))) : w.heap.size ≤ gb155)); have n5_ := am ((by rw [hg]; exact Nat.ne_of_lt (blk_lt (g := gb154) (o := .cells #[.int .i64 a0_0, .int .i64 a0_1] 84 (0, 0)) (by (with_reducible repeat (first | apply kdn | apply kdr | apply kal)); exact BK154.out)) : gb154 ≠ gb155)); have n6_ := am ((by rw [hg]; exact Nat.ne_of_gt (blk_lt (g := gb154) (o := .cells #[.int .i64 a0_0, .int .i64 a0_1] 84 (0, 0)) (by (with_reducible repeat (first | apply kdn | apply kdr | apply kal)); exact BK154.out)) : gb155 ≠ gb154)); clear BK154; clear HB; have BK154 := n0_; have HB := n1_; have BK155 := n2_; have GW155 := n3_; have GE155 := n4_; have NB154_155 := n5_; have NB155_154 := n6_; clear n0_ n1_ n2_ n3_ n4_ n5_ n6_; clear hb hbox hg; have hnb58 := NB154_155.out; have hnc58 := NB155_154.out; have hcz59_0 : w57.cell? ⟨gb154, 0, none⟩ = some (.int .i64 a0_0) := (kce BK154.out 0).trans rfl; have hcz59_1 : w57.cell? ⟨gb154, 1, none⟩ = some (.int .i64 a0_1) := (kce BK154.out 1).trans rfl; have hfz59_0 := kfr BK154.out 0; have hfz59_1 := kfr BK154.out 1) | (go_at_call 101; (with_reducible refine (spec_CodeOk.calls a0_0 a0_1 false _ A3.out).mono ?_); rintro e w60 ⟨rfl, hb⟩; have n0_ := am (kbb (g := gb154) (o := .cells #[.int .i64 a0_0, .int .i64 a0_1] 84 (0, 0)) (by (with_reducible repeat (first | apply kdn | apply kdr | apply kal)); exact BK154.out) hb); have n1_ := am (kbb (g := gb155) (o := .cells #[.int .i64 a1_0, .int .i64 a1_1, .string a1_2] 60 (0, 0)) (by (with_reducible repeat (first | apply kdn | apply kdr | apply kal)); exact BK155.out) hb); have n2_ := am (below_step (by repeat (first | (with_reducible first | exact HB.out | apply bal | apply pdn | apply bd1 | refine bst ?_ GE154.out | refine bst ?_ GE155.out) | exact HB.out)) hb); clear BK154; clear BK155; clear HB; have BK154 := n0_; have BK155 := n1_; have HB := n2_; clear n0_ n1_ n2_; (try clear hb); (try clear hb2); (try clear hk); (try clear hi))); try go_wp2_with (first | ((with_reducible refine gate_dst (N := 2) rfl ?_); refine box_event ?hg (N := 2) ?hd (cs := #[.int .i64 a0_0, .int .i64 a0_1]) (t := 84) ?hr ?_; (case hd => rfl); (case hg => rfl); (case hr => first | (go_simp; done) | (go_simp; rfl)); intro gb154 hg w56 hbox hb; have n0_ := am (below_step (by repeat (first | (with_reducible first | exact HB.out | apply bal | apply pdn | apply bd1) | exact HB.out)) hb); have n1_ := am (hbox); have n2_ := am ((by rw [hg]; exact (below_size (by repeat (first | (with_reducible first | exact HB.out | apply bal | apply pdn | apply bd1) | exact HB.out))) : w.heap.size ≤ gb154)); have n3_ := am ((by rw [hg]; exact (below_size (by repeat (first | (with_reducible first | exact HB.out | apply bal | apply pdn | apply bd1) | exact HB.out))) : w.heap.size ≤ gb154)); clear HB; have HB := n0_; have BK154 := n1_; have GW154 := n2_; have GE154 := n3_; clear n0_ n1_ n2_ n3_; clear hb hbox hg) | ((with_reducible refine gate_dst (N := 3) rfl ?_); refine box_event ?hg (N := 3) ?hd (cs := #[.int .i64 a1_0, .int .i64 a1_1, .string a1_2]) (t := 60) ?hr ?_; (case hd => rfl); (case hg => rfl); (case hr => first | (go_simp; done) | (go_simp; rfl)); intro gb155 hg w57 hbox hb; have n0_ := am (kbb (g := gb154) (o := .cells #[.int .i64 a0_0, .int .i64 a0_1] 84 (0, 0)) (by (with_reducible repeat (first | apply kdn | apply kdr | apply kal)); exact BK154.out) hb); have n1_ := am (below_step (by repeat (first | (with_reducible first | exact HB.out | apply bal | apply pdn | apply bd1 | refine bst ?_ GE154.out) | exact HB.out)) hb); have n2_ := am (hbox); have n3_ := am ((by rw [hg]; exact (below_size (by repeat (first | (with_reducible first | exact HB.out | apply bal | apply pdn | apply bd1 | refine bst ?_ GE154.out) | exact HB.out))) : w.heap.size ≤ gb155)); have n4_ := am ((by rw [hg]; exact (below_size (by repeat (first | (with_reducible first | exact HB.out | apply bal | apply pdn | apply bd1 | refine bst ?_ GE154.out) | exact HB.out))) : w.heap.size ≤ gb155)); have n5_ := am ((by rw [hg]; exact Nat.ne_of_lt (blk_lt (g := gb154) (o := .cells #[.int .i64 a0_0, .int .i64 a0_1] 84 (0, 0)) (by (with_reducible repeat (first | apply kdn | apply kdr | apply kal)); exact BK154.out)) : gb154 ≠ gb155)); have n6_ := am ((by rw [hg]; exact Nat.ne_of_gt (blk_lt (g := gb154) (o := .cells #[.int .i64 a0_0, .int .i64 a0_1] 84 (0, 0)) (by (with_reducible repeat (first | apply kdn | apply kdr | apply kal)); exact BK154.out)) : gb155 ≠ gb154)); clear BK154; clear HB; have BK154 := n0_; have HB := n1_; have BK155 := n2_; have GW155 := n3_; have GE155 := n4_; have NB154_155 := n5_; have NB155_154 := n6_; clear n0_ n1_ n2_ n3_ n4_ n5_ n6_; clear hb hbox hg; have hnb58 := NB154_155.out; have hnc58 := NB155_154.out; have hcz59_0 : w57.cell? ⟨gb154, 0, none⟩ = some (.int .i64 a0_0) := (kce BK154.out 0).trans rfl; have hcz59_1 : w57.cell? ⟨gb154, 1, none⟩ = some (.int .i64 a0_1) := (kce BK154.out 1).trans rfl; have hfz59_0 := kfr BK154.out 0; have hfz59_1 := kfr BK154.out 1) | (go_at_call 101; (with_reducible refine (spec_CodeOk.calls a0_0 a0_1 false _ A3.out).mono ?_); rintro e w60 ⟨rfl, hb⟩; have n0_ := am (kbb (g := gb154) (o := .cells #[.int .i64 a0_0, .int .i64 a0_1] 84 (0, 0)) (by (with_reducible repeat (first | apply kdn | apply kdr | apply kal)); exact BK154.out) hb); have n1_ := am (kbb (g := gb155) (o := .cells #[.int .i64 a1_0, .int .i64 a1_1, .string a1_2] 60 (0, 0)) (by (with_reducible repeat (first | apply kdn | apply kdr | apply kal)); exact BK155.out) hb); have n2_ := am (below_step (by repeat (first | (with_reducible first | exact HB.out | apply bal | apply pdn | apply bd1 | refine bst ?_ GE154.out | refine bst ?_ GE155.out) | exact HB.out)) hb); clear BK154; clear BK155; clear HB; have BK154 := n0_; have BK155 := n1_; have HB := n2_; clear n0_ n1_ n2_; (try clear hb); (try clear hb2); (try clear hk); (try clear hi))))
  go_ret
  exact ⟨by first | rfl | (simp [errW_none, errW_some] <;> rfl) | (simp [*, errW_none, errW_some] <;> rfl), by repeat (first | (with_reducible first | exact HB.out | apply bal | apply pdn | apply bd1 | refine bst ?_ GE154.out | refine bst ?_ GE155.out) | exact HB.out)⟩

/-! ### spec_l16Plain: function 83 -/
def spec_l16Plain.f  : Option (Int × Int) := some (1, 0)
set_option maxHeartbeats 8000000 in
set_option maxRecDepth 100000 in
theorem spec_l16Plain.calls  (r1 : Int) (r2 : Int) (w : World) (h : spec_l16Plain.f  = some (r1, r2)) :
  Calls Try.prog 83 #[] w fun e w' => e = .returned (.agg #[.int .i64 r1, .int .i64 r2]) ∧ Below w.heap.size w w' := by
 have hu84 := Try.underlying84
 have HB := am (Below.refl w.heap.size w)
 have H : (some (1, 0)) = some (r1, r2) := h
 clear h
 simp only [Option.some.injEq, Prod.mk.injEq] at H
 obtain ⟨rfl, rfl⟩ := H
 go_enter Try.func83, Try.ntmps83
 go_wp2_with (first | ((with_reducible refine gate_dst (N := 0) rfl ?_); refine box_event ?hg (N := 0) ?hd (cs := #[.int .i64 0, .int .i64 0]) (t := 84) ?hr ?_; (case hd => rfl); (case hg => rfl); (case hr => first | (go_simp; done) | (go_simp; rfl)); intro gb158 hg w1 hbox hb; have n0_ := am (below_step (by repeat (first | (with_reducible first | exact HB.out | apply bal | apply pdn | apply bd1) | exact HB.out)) hb); have n1_ := am (hbox); have n2_ := am ((by rw [hg]; exact (below_size (by repeat (first | (with_reducible first | exact HB.out | apply bal | apply pdn | apply bd1) | exact HB.out))) : w.heap.size ≤ gb158)); have n3_ := am ((by rw [hg]; exact (below_size (by repeat (first | (with_reducible first | exact HB.out | apply bal | apply pdn | apply bd1) | exact HB.out))) : w.heap.size ≤ gb158)); clear HB; have HB := n0_; have BK158 := n1_; have GW158 := n2_; have GE158 := n3_; clear n0_ n1_ n2_ n3_; clear hb hbox hg; have hcz2_0 : w1.cell? ⟨gb158, 0, none⟩ = some (.int .i64 0) := (kce BK158.out 0).trans rfl; have hcz2_1 : w1.cell? ⟨gb158, 1, none⟩ = some (.int .i64 0) := (kce BK158.out 1).trans rfl; have hfz2_0 := kfr BK158.out 0; have hfz2_1 := kfr BK158.out 1))
 refine bodyPost_ret (results_cell_row rfl _ _ gb158 84 #[.int .i64 1, .int .i64 0] (0, 0) _ rfl (by (with_reducible repeat (first | apply kdn | apply kdr | apply kal)); refine blk_put (cs := #[.int .i64 1, .int .i64 0]) ?_ 1 _ rfl; (with_reducible repeat (first | apply kdn | apply kdr | apply kal)); refine blk_put (cs := #[.int .i64 0, .int .i64 0]) ?_ 0 _ rfl; (with_reducible repeat (first | apply kdn | apply kdr | apply kal)); exact BK158.out) Try.underlying84 rfl (by kernel_rfl)) rfl ?_
 exact ⟨by first | rfl | (simp [errW_none, errW_some] <;> rfl) | (simp [*, errW_none, errW_some] <;> rfl), by repeat (first | (with_reducible first | exact HB.out | apply bal | apply pdn | apply bd1 | refine bst ?_ GE158.out) | exact HB.out)⟩

/-! ### spec_l16Lay: function 94 -/
/-- A row of bytes that a conversion may have marked behind its end. -/
def spec_l16Lay.MB (e : TypeId) (w : World) (base g cap : Nat) (l : List Int) : Prop :=
 ∃ cur fz, base ≤ g ∧ w.heap[g]? = some (.cells cur e fz) ∧ (fz.2 = 0 ∨ cur.size ≤ fz.1) ∧ l.length ≤ cap ∧ cap ≤ maxLen ∧ cur.size = cap ∧ cur.toList.take l.length = l.map (Value.int .u8)
def spec_l16Lay.strNums (s : ByteArray) : List Int := s.data.toList.map fun b => (b.toNat : Int)
theorem spec_l16Lay.strNums_length (s : ByteArray) : (spec_l16Lay.strNums s).length = s.size := by simp [strNums]
theorem spec_l16Lay.MB.lt {e : TypeId} {w : World} {base g cap : Nat} {l : List Int} (h : spec_l16Lay.MB e w base g cap l) : g < w.heap.size := by
 obtain ⟨cur, fz, _, hg, _⟩ := h
 exact (Array.getElem?_eq_some_iff.1 hg).1
theorem spec_l16Lay.MB.base {e : TypeId} {w : World} {base g cap : Nat} {l : List Int} (h : spec_l16Lay.MB e w base g cap l) : base ≤ g := by
 obtain ⟨cur, fz, hb, _⟩ := h
 exact hb
theorem spec_l16Lay.MB.len {e : TypeId} {w : World} {base g cap : Nat} {l : List Int} (h : spec_l16Lay.MB e w base g cap l) : l.length ≤ cap ∧ cap ≤ maxLen := by
 obtain ⟨cur, fz, _, _, _, h1, h2, _⟩ := h
 exact ⟨h1, h2⟩
theorem spec_l16Lay.MB.alloc {e : TypeId} {w : World} {base g cap : Nat} {l : List Int} (h : spec_l16Lay.MB e w base g cap l) (o : Obj) : spec_l16Lay.MB e (w.alloc o) base g cap l := by
 have hlt := h.lt
 obtain ⟨cur, fz, hb, hg, hr⟩ := h
 exact ⟨cur, fz, hb, (heap_alloc_old w o hlt).trans hg, hr⟩
theorem spec_l16Lay.MB.setOther {e : TypeId} {w : World} {base g cap : Nat} {l : List Int} (h : spec_l16Lay.MB e w base g cap l) (p : Addr) (hp : p.block ≠ g) (u : Value) : spec_l16Lay.MB e (w.setCell p u) base g cap l := by
 obtain ⟨cur, fz, hb, hg, hr⟩ := h
 exact ⟨cur, fz, hb, (Below.heap_setCell _ _ _ _ (by omega)).trans hg, hr⟩
theorem spec_l16Lay.MB.cell {e : TypeId} {w : World} {base g cap : Nat} {l : List Int} (h : spec_l16Lay.MB e w base g cap l) (i : Nat) (hi : i < l.length) : w.cell? ⟨g, i, none⟩ = some (.int .u8 (l.getD i 0)) := by
 obtain ⟨cur, fz, hb, hg, hfz, h1, h2, h3, h4⟩ := h
 rw [cell_of_row w g i cur e fz hg]
 have := congrArg (fun z => z[i]?) h4
 simp only [List.getElem?_take, hi, if_pos, List.getElem?_map] at this
 simpa [List.getD, hi] using this
theorem spec_l16Lay.MB.frozen {e : TypeId} {w : World} {base g cap : Nat} {l : List Int} (h : spec_l16Lay.MB e w base g cap l) (i : Nat) (hi : i < l.length) : w.frozen? ⟨g, i, none⟩ = false := by
 obtain ⟨cur, ⟨lo, hh⟩, hb, hg, hfz, h1, h2, h3, h4⟩ := h
 simp only [World.frozen?, hg, Bool.and_eq_false_iff, decide_eq_false_iff_not]
 simp only at hfz
 omega
theorem spec_l16Lay.MB.set {e : TypeId} {w : World} {base g cap : Nat} {l : List Int} (h : spec_l16Lay.MB e w base g cap l) (i : Nat) (hi : i < l.length) (x : Int) : spec_l16Lay.MB e (w.setCell ⟨g, i, none⟩ (.int .u8 x)) base g cap (l.set i x) := by
 obtain ⟨cur, fz, hb, hg, hfz, h1, h2, h3, h4⟩ := h
 refine ⟨cur.setIfInBounds i (.int .u8 x), fz, hb, ?_, by simpa using hfz, by simpa using h1, h2, by simpa using h3, ?_⟩
 ·rw [setCell_eq_setRow w g i cur e fz _ hg]
  exact setRow_heap w g cur _ e fz hg
 ·rw [Array.toList_setIfInBounds, List.length_set, List.take_set, h4, List.map_set]
open Go.Lib in
theorem spec_l16Lay.MB.conv {P : Program} {src dst e : TypeId} {u : TypeDesc} (hs : P.underlying src = some u) (hd : P.underlying dst = some (.slice e)) (he : P.underlying e = some (.int .u8)) (w : World) (s : ByteArray) (hsz : s.size ≤ maxLen) :
  ∃ cap w', (convert src dst (.string s)).run P w = .ok (.slice (some ⟨w.heap.size, 0, none⟩) s.size cap) w' ∧ spec_l16Lay.MB e w' w.heap.size w.heap.size cap (spec_l16Lay.strNums s) ∧ Below w.heap.size w w' := by
 refine ⟨_, _, Go.Lib.run_convert_string_bytes w src dst e s hs hd he, ?_, ?_⟩
 ·have hge := grownCap_ge w s.size 0 e
  refine ⟨_, _, Nat.le_refl _, bytesWorld_at_new w e s, .inr (Nat.le_refl _), by rw [spec_l16Lay.strNums_length]; exact hge, grownCap_le_maxLen w _ _ e hsz, ?_, ?_⟩
  ·simp only [bytesCells, Array.size_append, Array.size_map, Array.size_replicate]
   have : s.data.size = s.size := rfl
   omega
  ·simp [strNums, bytesCells, spec_l16Lay.strNums_length, List.map_map, Function.comp_def]
 ·refine ⟨rfl, rfl, rfl, by rw [bytesWorld_size]; omega, fun k hk => bytesWorld_at_old w e s k hk⟩
theorem spec_l16Lay.MB.toStr {P : Program} {src dst e : TypeId} (hs : P.underlying src = some (.slice e)) (he : P.underlying e = some (.int .u8)) (hd : P.underlying dst = some .string) {w : World} {base g cap : Nat} {l : List Int} (h : spec_l16Lay.MB e w base g cap l) :
  (convert src dst (.slice (some ⟨g, 0, none⟩) l.length cap)).run P w = .ok (.string (strOfNums l)) w :=
 run_convert_bytes_arg w src e hs he g 0 l.length cap l rfl (fun i hi => by rw [Nat.zero_add]; exact h.cell i hi) dst hd
theorem spec_l16Lay.MB.append {P : Program} {t ty e : TypeId} {i : TypeInfo} (ht : P.underlying t = some (.slice e)) (hi : P.info? e = some i) (hz : i.zero = some (.int .u8 0)) (hsize : i.size = 1) (hby : i.bytes = 1)
  {w : World} {base g cap : Nat} {l : List Int} (h : spec_l16Lay.MB e w base g cap l) (hB : base ≤ w.heap.size) (ad : Addr) (c : Nat) (x : Int) (hx : w.cell? ad = some (.int .u8 x)) (hl : l.length < 1000000) :
  ∃ g' cap' w', (Builtin.append_ #[t, t] ty #[.slice (some ⟨g, 0, none⟩) l.length cap, .slice (some ad) 1 c]).run P w = .ok (.slice (some ⟨g', 0, none⟩) (l.length + 1) cap') w' ∧ spec_l16Lay.MB e w' base g' cap' (l ++ [x]) ∧ Below base w w' := by
 have hnews : ∀ j u, [Value.int .u8 x][j]? = some u → w.cell? (ad.add j) = some u := by
  intro j u hj
  cases j with
  | zero => simp at hj; subst hj; rw [show ad.add 0 = ad from by obtain ⟨b, o, sp⟩ := ad; unfold Addr.add; split <;> simp_all]; exact hx
  | succ j => simp at hj
 have hcl : ∀ j, j < l.length → w.cell? ⟨g, j, none⟩ = some (.int .u8 (l.getD j 0)) := fun j hj => h.cell j hj
 obtain ⟨cur, fz, hb, hg, hfz, h1, h2, h3, h4⟩ := h
 by_cases hroom : l.length + 1 ≤ cap
 ·have hf := run_firstCells_some (P := P) w i.size 1 ad 1 c [Value.int .u8 x] (by simp [hsize]) hnews
  have hcell : w.cell? ⟨g, l.length, none⟩ = some cur[l.length] := by simp [World.cell?, hg, show l.length < cur.size by omega]
  have hfro : w.frozen? ⟨g, l.length, none⟩ = false := by
   obtain ⟨lo, hh⟩ := fz
   simp only [World.frozen?, hg, Bool.and_eq_false_iff, decide_eq_false_iff_not]
   simp only at hfz
   omega
  have hst : (storeCells ⟨g, l.length, none⟩ [Value.int .u8 x]).run P w = .ok () (w.setCell ⟨g, l.length, none⟩ (.int .u8 x)) := by
   simp only [storeCells, Sem.run_bind]
   rw [show (⟨g, l.length, none⟩ : Addr).add 0 = ⟨g, l.length, none⟩ from by unfold Addr.add; split <;> simp_all, run_store P w _ _ _ (by rfl), hcell]
   simp [hfro]
  refine ⟨g, cap, w.setCell ⟨g, l.length, none⟩ (.int .u8 x), ?_, ?_, ?_⟩
  ·simp [Builtin.append_, run_underlying ht, sizeOf, typeInfo, hi, hsize, Builtin.lenOf, hroom, hsize ▸ hf, Addr.add_lit, hst]
  ·refine ⟨cur.setIfInBounds l.length (.int .u8 x), fz, hb, ?_, by simpa using hfz, by simpa using hroom, h2, by simpa using h3, ?_⟩
   ·rw [setCell_eq_setRow w g l.length cur e fz _ hg]
    exact setRow_heap w g cur _ e fz hg
   ·rw [Array.toList_setIfInBounds, List.length_append, List.length_singleton, List.take_add_one, List.map_append, ← h4, List.take_set_of_le (Nat.le_refl _)]
    congr 1
    rw [List.getElem?_set_self (by simp; omega)]
    rfl
  ·exact (Below.refl base w).setCell (p := ⟨g, l.length, none⟩) hb _
 ·have hr := run_append_grow (P := P) w t ty e i (.int .u8 0) ht hi hz ⟨g, 0, none⟩ l.length cap (l.map (Value.int .u8)) (by simp [hsize]) (fun j v hj => by
    have hjl : j < l.length := by
     rcases Nat.lt_or_ge j l.length with h | h
     ·exact h
     ·simp [List.getElem?_eq_none (show (l.map (Value.int .u8)).length ≤ j by simpa using h)] at hj
    rw [show (⟨g, 0, none⟩ : Addr).add j = ⟨g, j, none⟩ from by unfold Addr.add; split <;> simp_all, hcl j hjl]
    simpa [List.getD, hjl] using hj) ad 1 c [Value.int .u8 x] (by simp [hsize]) hnews (by omega) (by omega) (by rw [hby]; exact growslice_fits (by omega) (by omega))
  have hge := grownCap_ge w (l.length + 1) cap e
  have hcm : grownCap w (l.length + 1) cap e ≤ maxLen := grownCap_le_maxLen w (l.length + 1) cap e (by unfold maxLen; omega)
  refine ⟨_, _, _, hr, ⟨_, (0, 0), hB, heap_alloc_new w.drew _, .inl rfl, by simpa using hge, hcm, ?_, ?_⟩, ⟨rfl, rfl, rfl, by simp, fun k hk => by first | exact heap_alloc_old w.drew _ k (show k < w.heap.size by omega) | exact heap_alloc_old w.drew _ (show k < w.heap.size by omega)⟩⟩
  ·simp [size_zeroCells, Value.cells]
   omega
  ·simp [List.take_append]
   exact List.take_of_length_le (by simp)

theorem spec_l16Lay.MB.wconv {P : Program} {ops : Array Oper} {rest : List Oper} {o : Oper} {a : Act} {Q : Exit → Act → World → Prop} {w : World} (hgd : o.guard = none) (x : Operand) (src dst e : TypeId) (u : TypeDesc) (ho : o.op = .convert src dst x)
  (hs : P.underlying src = some u) (hd : P.underlying dst = some (.slice e)) (he : P.underlying e = some (.int .u8)) (s : ByteArray) (hx : a.eval x = .string s) (hsz : s.size ≤ maxLen)
  (h : ∀ cap w', spec_l16Lay.MB e w' w.heap.size w.heap.size cap (spec_l16Lay.strNums s) → Below w.heap.size w w' → wpList P ops Q rest (a.put o.dst (.slice (some ⟨w.heap.size, 0, none⟩) s.size cap)) w') : wpList P ops Q (o :: rest) a w := by
 refine wpList_plain hgd fun K hK => ?_
 obtain ⟨cap, w', hr, h2, h3⟩ := spec_l16Lay.MB.conv (P := P) hs hd he w s hsz
 unfold Oper.wp execOp
 simp only [ho, Sem.run_bind, Sem.run_pure, Result.andThen_ok, hx, hr]
 exact hK _ _ (h cap w' h2 h3)
theorem spec_l16Lay.MB.wappend {P : Program} {ops : Array Oper} {rest : List Oper} {o : Oper} {a : Act} {Q : Exit → Act → World → Prop} {w : World} (hgd : o.guard = none) (sl x : Operand) (t : TypeId)
  (ho : o.op = .call { callee := .builtin .append, args := #[sl, x], argTypes := #[t, t] }) (e : TypeId) (i : TypeInfo) (ht : P.underlying t = some (.slice e)) (hi : P.info? e = some i) (hz : i.zero = some (.int .u8 0)) (hsize : i.size = 1) (hby : i.bytes = 1)
  (base g cap : Nat) (l : List Int) (h : spec_l16Lay.MB e w base g cap l) (hB : base ≤ w.heap.size) (n : Nat) (hn : l.length = n) (hs : a.eval sl = .slice (some ⟨g, 0, none⟩) n cap) (ad : Addr) (c : Nat) (y : Int) (hx : a.eval x = .slice (some ad) 1 c) (hy : w.cell? ad = some (.int .u8 y)) (hl : l.length < 1000000)
  (hk : ∀ g' cap' w', spec_l16Lay.MB e w' base g' cap' (l ++ [y]) → Below base w w' → wpList P ops Q rest (a.put o.dst (.slice (some ⟨g', 0, none⟩) (n + 1) cap')) w') : wpList P ops Q (o :: rest) a w := by
 subst hn
 refine wpList_plain hgd fun K hK => ?_
 obtain ⟨g', cap', w', hr, h2, h3⟩ := spec_l16Lay.MB.append (P := P) (ty := o.type) ht hi hz hsize hby h hB ad c y hy hl
 unfold Oper.wp execOp
 simp only [ho, resolve, invoke, builtin, Sem.run_bind, Sem.run_pure, Result.andThen_ok, mta, mco, mni, hs, hx, hr]
 exact hK _ _ (hk g' cap' w' h2 h3)
theorem spec_l16Lay.MB.wstr {P : Program} {ops : Array Oper} {rest : List Oper} {o : Oper} {a : Act} {Q : Exit → Act → World → Prop} {w : World} (hgd : o.guard = none) (x : Operand) (src dst e : TypeId) (ho : o.op = .convert src dst x)
  (hs : P.underlying src = some (.slice e)) (he : P.underlying e = some (.int .u8)) (hd : P.underlying dst = some .string) (base g cap n : Nat) (l : List Int) (h : spec_l16Lay.MB e w base g cap l) (hn : l.length = n) (hx : a.eval x = .slice (some ⟨g, 0, none⟩) n cap)
  (hk : wpList P ops Q rest (a.put o.dst (.string (strOfNums l))) w) : wpList P ops Q (o :: rest) a w := by
 subst hn
 refine wpList_plain hgd fun K hK => ?_
 have hr := spec_l16Lay.MB.toStr (P := P) hs he hd h
 unfold Oper.wp execOp
 simp only [ho, Sem.run_bind, Sem.run_pure, Result.andThen_ok, hx, hr]
 exact hK _ _ hk
def spec_l16Lay.toI (L : List UInt8) : List Int := L.map fun b => (b.toNat : Int)
theorem spec_l16Lay.toI_length (L : List UInt8) : (spec_l16Lay.toI L).length = L.length := by simp [spec_l16Lay.toI]
theorem spec_l16Lay.str_toI (L : List UInt8) : strOfNums (spec_l16Lay.toI L) = ⟨L.toArray⟩ := by
 unfold strOfNums spec_l16Lay.toI
 congr 1
 simp [Function.comp_def]
def spec_l16Lay.pad (B : List UInt8) (a : Nat) : List UInt8 := B ++ List.replicate (a - B.length) 0
def spec_l16Lay.lay (P X : List UInt8) (a i : Nat) : List UInt8 := P.take a ++ X.take i ++ P.drop (a + i)
theorem spec_l16Lay.pad_length (B : List UInt8) (a : Nat) : (spec_l16Lay.pad B a).length = max B.length a := by simp [spec_l16Lay.pad]; omega
theorem spec_l16Lay.lay_length (P X : List UInt8) (a i : Nat) (ha : a ≤ P.length) (hi : i ≤ X.length) : (spec_l16Lay.lay P X a i).length = max P.length (a + i) := by
 simp [spec_l16Lay.lay, lnt, lnd]; omega
theorem spec_l16Lay.lay_zero (P X : List UInt8) (a : Nat) : spec_l16Lay.lay P X a 0 = P := by simp [spec_l16Lay.lay]
theorem spec_l16Lay.lay_set (P X : List UInt8) (a i : Nat) (ha : a ≤ P.length) (hi : i < X.length) (hp : a + i < P.length) : (spec_l16Lay.lay P X a i).set (a + i) (X.getD i 0) = spec_l16Lay.lay P X a (i + 1) := by
 have h1 : (P.take a ++ X.take i).length = a + i := by simp [lnt]; omega
 unfold spec_l16Lay.lay
 rw [List.set_append_right _ _ (by omega), h1, Nat.sub_self]
 have e : P.drop (a + i) = P[a + i] :: P.drop (a + (i + 1)) := List.drop_eq_getElem_cons hp
 have e2 : X.getD i 0 = X[i] := by simp [List.getD, hi]
 rw [e, scz, List.take_succ_eq_append_getElem hi, e2]
 simp only [List.append_assoc, List.cons_append, List.nil_append]
theorem spec_l16Lay.lay_app (P X : List UInt8) (a i : Nat) (hi : i < X.length) (hp : P.length ≤ a + i) : spec_l16Lay.lay P X a i ++ [X.getD i 0] = spec_l16Lay.lay P X a (i + 1) := by
 unfold spec_l16Lay.lay
 have e2 : X.getD i 0 = X[i] := by simp [List.getD, hi]
 rw [List.drop_of_length_le hp, List.drop_of_length_le (by omega), List.take_succ_eq_append_getElem hi, e2]
 simp only [List.append_assoc, List.append_nil]
def spec_l16Lay.f (body : ByteArray) (a : Int) (bytes : ByteArray) : Option (ByteArray) :=
 if 0 ≤ a ∧ a ≤ 64 ∧ body.size ≤ 64 ∧ bytes.size ≤ 64 then some ⟨(spec_l16Lay.lay (spec_l16Lay.pad body.data.toList a.toNat) bytes.data.toList a.toNat (min bytes.size (64 - a.toNat))).toArray⟩ else none
set_option maxHeartbeats 4000000 in
set_option maxRecDepth 100000 in
theorem spec_l16Lay.calls (a0 : ByteArray) (a1 : Int) (a2 : ByteArray) (r : ByteArray) (w : World) (h : spec_l16Lay.f a0 a1 a2 = some r) :
  Calls Try.prog 94 #[.string a0, .int .i64 a1, .string a2] w fun e w' => e = .returned (.string r) ∧ Below w.heap.size w w' := by
 unfold spec_l16Lay.f at h
 split at h
 case isFalse => cases h
 rename_i hc
 obtain ⟨hc0, hc1, hc2, hc3⟩ := hc
 obtain ⟨a, rfl⟩ := Int.eq_ofNat_of_zero_le hc0
 rw [Int.toNat_natCast] at h
 have HR := am (Option.some.inj h)
 clear h hc0
 have hl0 : a0.data.toList.length = a0.size := by simp
 have hl2 : a2.data.toList.length = a2.size := by simp
 obtain ⟨B, hB⟩ : ∃ B, B = a0.data.toList := ⟨_, rfl⟩
 obtain ⟨X, hX⟩ : ∃ X, X = a2.data.toList := ⟨_, rfl⟩
 rw [← hB] at hl0 HR
 rw [← hX] at hl2 HR
 have HX := am hX
 have HB0 := am (show spec_l16Lay.strNums a0 = spec_l16Lay.toI B by rw [hB]; rfl)
 clear hX hB
 obtain ⟨i0, hi, hz0, hz1, hz2⟩ := info_parts info5
 go_enter Try.func94, Try.ntmps94
 go_wp2_with (first | ((with_reducible refine gate_dst (N := 10) rfl ?_); refine spec_l16Lay.MB.wconv rfl (.tmp 9) 9 48 5 _ rfl Try.underlying9 Try.underlying48 Try.underlying5 a0 rfl (by unfold maxLen; omega) ?_; intro cap w1 hM hb1))
 rw [HB0.out] at hM
 have HM := am hM
 have HW := am hb1
 clear hM hb1
 go_loopg [7] (a - B.length) (fun gg s7 wr => ∃ (n g cp : Nat) (L : List UInt8), s7 = .slice (some ⟨g, 0, none⟩) n cp ∧ Aside0 (L.length = n ∧ B.length ≤ n ∧ n ≤ max B.length a ∧ a - n ≤ gg ∧ L ++ List.replicate (a - n) 0 = spec_l16Lay.pad B a) ∧ Aside0 (spec_l16Lay.MB 5 wr w.heap.size g cp (spec_l16Lay.toI L)) ∧ Aside0 (Below w.heap.size w wr))
 case atStart => exact ⟨_, _, _, B, by rw [← hl0], ⟨rfl, Nat.le_refl _, by omega, Nat.le_refl _, rfl⟩, HM, HW⟩
 case round =>
  obtain ⟨n, g, cp, L, rfl, HN, HM, HW⟩ := hrel
  by_cases hlt : n < a
  ·have hltz : (n : Int) < (a : Int) := by omega
   go_wp2_with (first | ((with_reducible refine gate_builtin (b := .append) (xs := #[.tmp 15, .tmp 16]) rfl ?_); at_builtin; refine spec_l16Lay.MB.wappend rfl (.tmp 15) (.tmp 16) 48 rfl 5 i0 Try.underlying48 hi hz0 hz1 hz2 w.heap.size g cp (spec_l16Lay.toI L) (HM.out.alloc _) (by have := HW.out.size; simp; omega) n (by rw [spec_l16Lay.toI_length]; exact HN.out.1) rfl ⟨wr.heap.size, 0, none⟩ 1 0 rfl (by simp) (by have := HN.out; rw [spec_l16Lay.toI_length]; omega) ?_; intro g' cp' w' hM' hB'; have HM' := am hM'; have HB' := am hB'; clear hM' hB'))
   go_roundg (a - (n + 1))
   case measure => have := HN.out; omega
   case rel =>
    have hn := HN.out
    refine ⟨n + 1, g', cp', L ++ [0], rfl, ⟨by simp [hn.1], by omega, by omega, Nat.le_refl _, ?_⟩, ⟨by have := HM'.out; rw [show spec_l16Lay.toI (L ++ [0]) = spec_l16Lay.toI L ++ [0] from by simp [spec_l16Lay.toI]]; exact this⟩, ⟨(HW.out.alloc HW.out.size _).trans HB'.out⟩⟩
    rw [← hn.2.2.2.2, show a - n = (a - (n + 1)) + 1 from by omega, List.replicate_succ, List.append_assoc]
    rfl
  ·have hltz : ¬ (n : Int) < (a : Int) := by omega
   have hn := HN.out
   obtain rfl : L = spec_l16Lay.pad B a := by
    have := hn.2.2.2.2
    rw [show a - n = 0 from by omega] at this
    simpa using this
   have HN2 := am (show n = max B.length a from by omega)
   clear HN hn
   go_wp2
   go_loopg [7, 8] a2.size (fun gg s7 s8 wr => ∃ (i n g cp : Nat), s8 = .int .i64 i ∧ s7 = .slice (some ⟨g, 0, none⟩) n cp ∧ Aside0 (i ≤ X.length ∧ i ≤ 64 - a ∧ a2.size - i ≤ gg ∧ n = max B.length (a + i)) ∧ Aside0 (spec_l16Lay.MB 5 wr w.heap.size g cp (spec_l16Lay.toI (spec_l16Lay.lay (spec_l16Lay.pad B a) X a i))) ∧ Aside0 (Below w.heap.size w wr))
   case atStart => exact ⟨0, n, g, cp, rfl, rfl, ⟨Nat.zero_le _, Nat.zero_le _, Nat.le_refl _, by have := HN2.out; omega⟩, ⟨by rw [spec_l16Lay.lay_zero]; exact HM.out⟩, HW⟩
   case round =>
    obtain ⟨i, n, g, cp, rfl, rfl, HN, HM, HW⟩ := hrel
    have hn := HN.out
    have hPl := spec_l16Lay.pad_length B a
    have hll := spec_l16Lay.lay_length (spec_l16Lay.pad B a) X a i (by omega) hn.1
    have htn : ((a : Int) + (i : Int)).toNat = a + i := by omega
    have HWR : Aside0 (wrap64 ((a : Int) + (i : Int)) = (a : Int) + (i : Int)) := ⟨by unfold wrap64; omega⟩
    have hib : i < a2.size → (a2[i]!.toNat : Int) = (((X.getD i 0) : UInt8).toNat : Int) := fun h => by
     have hx := HX.out
     subst hx
     have h' : i < a2.data.toList.length := by simpa using h
     have e : a2.data.toList.getD i 0 = a2.data.toList[i] := by simp only [List.getD, List.getElem?_eq_getElem h', Option.getD_some]
     rw [getElem!_pos a2 i h, e, Array.getElem_toList]
     rfl
    have HIB := am hib
    clear hib
    by_cases hi1 : i < X.length
    ·have hi1b : decide ((i : Int) < (a2.size : Int)) = true := decide_eq_true (by omega)
     have hi1n : i < a2.size := by omega
     by_cases h64 : a + i < 64
     ·have h64b : decide (wrap64 ((a : Int) + (i : Int)) < 64) = true := decide_eq_true (by rw [HWR.out]; omega)
      by_cases hs : a + i < n
      ·have hsb : decide (wrap64 ((a : Int) + (i : Int)) < (n : Int)) = true := decide_eq_true (by rw [HWR.out]; omega)
       have HC := HM.out.cell (a + i) (by rw [spec_l16Lay.toI_length, hll]; omega)
       have HF := HM.out.frozen (a + i) (by rw [spec_l16Lay.toI_length, hll]; omega)
       have HSET := am (HM.out.set (a + i) (by rw [spec_l16Lay.toI_length, hll]; omega) (((X.getD i 0) : UInt8).toNat : Int))
       have HLS := am (spec_l16Lay.lay_set (spec_l16Lay.pad B a) X a i (by omega) hi1 (by omega))
       have HN1 := am (show i + 1 ≤ X.length ∧ i + 1 ≤ 64 - a ∧ n = max B.length (a + (i + 1)) from by omega)
       clear hn hPl hll htn
       go_upto_if 35 with fail
       rw [HWR.out] at *
       have hp0 : ((0 : Int) ≤ (a : Int) + (i : Int)) = True := eq_true (by omega)
       have hp1 : ((a : Int) + (i : Int) < (n : Int)) = True := eq_true (by have := of_decide_eq_true hsb; omega)
       have hq0 : ((0 : Int) ≤ (i : Int)) = True := eq_true (by omega)
       have hq1 : ((i : Int) < (a2.size : Int)) = True := eq_true (of_decide_eq_true hi1b)
       have htn : ((a : Int) + (i : Int)).toNat = a + i := by omega
       go_wp2
       go_roundg (a2.size - (i + 1))
       case measure => have := HN.out; have := of_decide_eq_true hi1b; omega
       case rel =>
        have h1 := HN1.out
        have e : (a2[i].toNat : Int) = (((X.getD i 0) : UInt8).toNat : Int) := by rw [← HIB.out hi1n, getElem!_pos a2 i hi1n]
        refine ⟨i + 1, n, g, cp, by go_num, rfl, ⟨h1.1, h1.2.1, Nat.le_refl _, h1.2.2⟩, ⟨?_⟩, ⟨HW.out.setCell (p := ⟨g, a + i, none⟩) HM.out.base _⟩⟩
        have h2 := HSET.out
        rw [← HLS.out, e]
        rw [show (spec_l16Lay.toI (spec_l16Lay.lay (spec_l16Lay.pad B a) X a i)).set (a + i) (((X.getD i 0) : UInt8).toNat : Int) = spec_l16Lay.toI ((spec_l16Lay.lay (spec_l16Lay.pad B a) X a i).set (a + i) (X.getD i 0)) from by simp [spec_l16Lay.toI, List.map_set]] at h2
        exact h2
      ·have hsb : decide (wrap64 ((a : Int) + (i : Int)) < (n : Int)) = false := decide_eq_false (by rw [HWR.out]; omega)
       have HLS := am (spec_l16Lay.lay_app (spec_l16Lay.pad B a) X a i hi1 (by omega))
       have HN1 := am (show i + 1 ≤ X.length ∧ i + 1 ≤ 64 - a ∧ n + 1 = max B.length (a + (i + 1)) ∧ (spec_l16Lay.toI (spec_l16Lay.lay (spec_l16Lay.pad B a) X a i)).length = n ∧ (spec_l16Lay.toI (spec_l16Lay.lay (spec_l16Lay.pad B a) X a i)).length < 1000000 from by rw [spec_l16Lay.toI_length, hll]; omega)
       clear hn hPl hll htn
       go_upto_if 35 with fail
       rw [HWR.out] at *
       have hq0 : ((0 : Int) ≤ (i : Int)) = True := eq_true (by omega)
       have hq1 : ((i : Int) < (a2.size : Int)) = True := eq_true (of_decide_eq_true hi1b)
       go_wp2_with (first | ((with_reducible refine gate_builtin (b := .append) (xs := #[.tmp 44, .tmp 48]) rfl ?_); at_builtin; refine spec_l16Lay.MB.wappend rfl (.tmp 44) (.tmp 48) 48 rfl 5 i0 Try.underlying48 hi hz0 hz1 hz2 w.heap.size g cp (spec_l16Lay.toI (spec_l16Lay.lay (spec_l16Lay.pad B a) X a i)) (HM.out.alloc _) (by have := HW.out.size; simp; omega) n HN1.out.2.2.2.1 rfl ⟨wr.heap.size, 0, none⟩ 1 (a2[i].toNat : Int) rfl (by simp) HN1.out.2.2.2.2 ?_; intro g' cp' w' hM' hB'; have HM' := am hM'; have HB' := am hB'; clear hM' hB'))
       go_roundg (a2.size - (i + 1))
       case measure => have := HN.out; have := of_decide_eq_true hi1b; omega
       case rel =>
        have h1 := HN1.out
        have e : (a2[i].toNat : Int) = (((X.getD i 0) : UInt8).toNat : Int) := by rw [← HIB.out hi1n, getElem!_pos a2 i hi1n]
        refine ⟨i + 1, n + 1, g', cp', by go_num, rfl, ⟨h1.1, h1.2.1, Nat.le_refl _, h1.2.2.1⟩, ⟨?_⟩, ⟨(HW.out.alloc HW.out.size _).trans HB'.out⟩⟩
        have h2 := HM'.out
        rw [← HLS.out]
        rw [e, show spec_l16Lay.toI (spec_l16Lay.lay (spec_l16Lay.pad B a) X a i) ++ [(((X.getD i 0) : UInt8).toNat : Int)] = spec_l16Lay.toI (spec_l16Lay.lay (spec_l16Lay.pad B a) X a i ++ [X.getD i 0]) from by simp [spec_l16Lay.toI]] at h2
        exact h2
     ·have h64b : decide (wrap64 ((a : Int) + (i : Int)) < 64) = false := decide_eq_false (by rw [HWR.out]; omega)
      have HE := am (show i = min a2.size (64 - a) ∧ (spec_l16Lay.toI (spec_l16Lay.lay (spec_l16Lay.pad B a) X a i)).length = n from by rw [spec_l16Lay.toI_length, hll]; omega)
      clear hn hPl hll htn
      go_wp2_with (first | ((with_reducible refine gate_dst (N := 51) rfl ?_); refine spec_l16Lay.MB.wstr rfl (.tmp 50) 48 9 5 rfl Try.underlying48 Try.underlying5 Try.underlying9 w.heap.size g cp n _ HM.out HE.out.2 rfl ?_))
      go_ret
      exact ⟨by rw [spec_l16Lay.str_toI, HE.out.1, HR.out] <;> rfl, HW.out⟩
    ·have hi1b : decide ((i : Int) < (a2.size : Int)) = false := decide_eq_false (by omega)
     have HE := am (show i = min a2.size (64 - a) ∧ (spec_l16Lay.toI (spec_l16Lay.lay (spec_l16Lay.pad B a) X a i)).length = n from by rw [spec_l16Lay.toI_length, hll]; omega)
     clear hn hPl hll htn
     go_wp2_with (first | ((with_reducible refine gate_dst (N := 51) rfl ?_); refine spec_l16Lay.MB.wstr rfl (.tmp 50) 48 9 5 rfl Try.underlying48 Try.underlying5 Try.underlying9 w.heap.size g cp n _ HM.out HE.out.2 rfl ?_))
     go_ret
     exact ⟨by rw [spec_l16Lay.str_toI, HE.out.1, HR.out] <;> rfl, HW.out⟩

/-! ### spec_l00Min: function 95 -/
def spec_l00Min.f (a0 : Int) (a1 : Int) : Option (Int) := if a0 < a1 then (some a0) else (some a1)
set_option maxHeartbeats 8000000 in
set_option maxRecDepth 100000 in
theorem spec_l00Min.calls (a0 : Int) (a1 : Int) (r : Int) (w : World) (h : spec_l00Min.f a0 a1 = some r) :
  Calls Try.prog 95 #[.int .i64 a0, .int .i64 a1] w fun e w' => e = .returned (.int .i64 r) ∧ Drawn0 w w' := by
 have H : (if a0 < a1 then (some a0) else (some a1)) = some r := h
 clear h
 by_cases c3 : a0 < a1
 ·rw [if_pos c3] at H
  have c3b0 : decide (a0 < a1) = true := decide_eq_true c3
  clear c3
  obtain rfl := Option.some.inj H
  go_enter Try.func95, Try.ntmps95
  go_wp2
  go_ret
  exact ⟨by first | rfl | (simp; done) | (simp [*]; done), by repeat (first | exact Drawn0.refl _ | apply Drawn0.step)⟩
 ·rw [if_neg c3] at H
  have c3b0 : decide (a0 < a1) = false := decide_eq_false c3
  clear c3
  obtain rfl := Option.some.inj H
  go_enter Try.func95, Try.ntmps95
  go_wp2
  go_ret
  exact ⟨by first | rfl | (simp; done) | (simp [*]; done), by repeat (first | exact Drawn0.refl _ | apply Drawn0.step)⟩

end Go.Proofs.Ythphhklbliambaa.MFnOps
