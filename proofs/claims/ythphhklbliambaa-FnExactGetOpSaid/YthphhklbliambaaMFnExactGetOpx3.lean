-- Written by a program of this session (wip/tools/myprint.py) over the kit's print: it is not the kit's print.
import Derived.Test.YthphhklbliambaaExtra
import Derived.Test.YthphhklbliambaaMFnExactGetOpx0
import Derived.Test.YthphhklbliambaaMFnExactGetOpx1
import Derived.Test.YthphhklbliambaaMFnExactGetOpx2
namespace Go.Proofs.Ythphhklbliambaa.MFnExactGetOp
open Go.RowKit Go.Proofs.YthphhklbliambaaW.PrintWords Go.Proofs.YthphhklbliambaaW.PrintLast Go.Proofs.YthphhklbliambaaW.PrintMore
open List renaming setIfInBounds_toArray → sit, set_cons_zero → scz, set_cons_succ → scs, map_toArray → mta, map_cons → mco, map_nil → mni, length_drop → lnd, length_take → lnt
attribute [local go_sem] max2_int min2_int max_two min_two max_three min_three max_four min_four   -- for this text's walks alone
set_option linter.unusedVariables false
set_option linter.unusedSimpArgs false

/-! ### spec_GetOp: function 40 -/
def spec_GetOp.f (k : Nat) (a0 : ByteArray) : Option (Int × Int × ByteArray × Int × Bool) := (spec_l16Src_num.f k a0 0 false).bind fun bt128 => ((spec_l16Src_num.f k bt128.2.1 bt128.2.2.1 bt128.2.2.2).bind fun bt132 => ((spec_l16Src_str.f k bt132.2.1 bt132.2.2.1 bt132.2.2.2).bind fun bt136 => (if bt136.2.2.2 = true then (some (0, 0, (⟨#[]⟩ : ByteArray), 0, false)) else ((spec_l16Plain.f).bind fun bt141 => ((spec_OpOk.f k bt141.1 bt141.2 bt128.1 bt132.1 bt136.1).bind fun t143 => (if t143 = true then (some (bt128.1, bt132.1, bt136.1, bt136.2.2.1, true)) else (some (0, 0, (⟨#[]⟩ : ByteArray), 0, false))))))))
theorem spec_GetOp.mono : ∀ a0 k, LeO (spec_GetOp.f k a0) (spec_GetOp.f (k + 1) a0) := by
 intro a0 k
 unfold spec_GetOp.f
 repeat' first
   | (with_reducible exact spec_OpOk.mono _ _ _ _ _ _)
   | (with_reducible exact spec_l16Src_num.mono _ _ _ _)
   | (with_reducible exact spec_l16Src_str.mono _ _ _ _)
   | (with_reducible exact LeO.refl _)
   | (with_reducible exact LeO.none _)
   | (with_reducible refine LeO.ite ?_ ?_)
   | (with_reducible refine LeO.bind ?_ (fun _ => ?_))
   | exact spec_OpOk.mono _ _ _ _ _ _
   | exact spec_l16Src_num.mono _ _ _ _
   | exact spec_l16Src_str.mono _ _ _ _
   | exact LeO.none _
   | refine LeO.ite ?_ ?_
   | refine LeO.bind ?_ (fun _ => ?_)
def spec_GetOp.T3 : Bool × List (List Nat × List Nat) := (true, [([], []), ([0], [0]), ([1], [1]), ([2], [2]), ([3], [3]), ([4, 4], [4]), ([4], [4]), ([5, 6, 5, 4], [4, 5, 6]), ([7, 4], [4, 7]), ([4, 8], [4, 8])])
def spec_GetOp.B3 : List Nat := [0, 1, 3, 7, 15, 31, 31, 127, 255, 511]
theorem spec_GetOp.tab3 : rtab .any (opsOf Try.f40 3) = spec_GetOp.T3 := by kernel_rfl
theorem spec_GetOp.bits3 : waitsOk spec_GetOp.T3.2 spec_GetOp.B3 = true := by kernel_rfl
def spec_GetOp.T5 : Bool × List (List Nat × List Nat) := (true, [([], []), ([], []), ([1], [1]), ([2], [2]), ([3], [3]), ([0, 0], [0]), ([4, 5, 0, 1, 2, 3, 4, 5], [4]), ([6, 0, 1, 2, 3, 4, 5, 6], [])])
def spec_GetOp.B5 : List Nat := [0, 0, 2, 6, 14, 1, 63, 127]
theorem spec_GetOp.tab5 : rtab .any (opsOf Try.f40 5) = spec_GetOp.T5 := by kernel_rfl
theorem spec_GetOp.bits5 : waitsOk spec_GetOp.T5.2 spec_GetOp.B5 = true := by kernel_rfl
set_option maxHeartbeats 8000000 in
set_option maxRecDepth 100000 in
theorem spec_GetOp.calls (k : Nat) (a0 : ByteArray) (r1 : Int) (r2 : Int) (r3 : ByteArray) (r4 : Int) (r5 : Bool) (w : World) (h : spec_GetOp.f k a0 = some (r1, r2, r3, r4, r5)) :
  Calls Try.prog 40 #[.string a0] w fun e w' => e = .returned (.tuple #[.agg #[.int .i64 r1, .int .i64 r2, .string r3], .int .i64 r4, .bool r5]) ∧ Below w.heap.size w w' := by
 have hu60 := Try.underlying60
 have hu114 := Try.underlying114
 have HB := am (Below.refl w.heap.size w)
 have H : ((spec_l16Src_num.f k a0 0 false).bind fun bt128 => ((spec_l16Src_num.f k bt128.2.1 bt128.2.2.1 bt128.2.2.2).bind fun bt132 => ((spec_l16Src_str.f k bt132.2.1 bt132.2.2.1 bt132.2.2.2).bind fun bt136 => (if bt136.2.2.2 = true then (some (0, 0, (⟨#[]⟩ : ByteArray), 0, false)) else ((spec_l16Plain.f).bind fun bt141 => ((spec_OpOk.f k bt141.1 bt141.2 bt128.1 bt132.1 bt136.1).bind fun t143 => (if t143 = true then (some (bt128.1, bt132.1, bt136.1, bt136.2.2.1, true)) else (some (0, 0, (⟨#[]⟩ : ByteArray), 0, false))))))))) = some (r1, r2, r3, r4, r5) := h
 clear h
 replace H := Option.bind_eq_some_iff.mp H
 obtain ⟨⟨t128, t129, t130, t131⟩, A20, H⟩ := H
 replace H : ((spec_l16Src_num.f k t129 t130 t131).bind fun bt132 => ((spec_l16Src_str.f k bt132.2.1 bt132.2.2.1 bt132.2.2.2).bind fun bt136 => (if bt136.2.2.2 = true then (some (0, 0, (⟨#[]⟩ : ByteArray), 0, false)) else ((spec_l16Plain.f).bind fun bt141 => ((spec_OpOk.f k bt141.1 bt141.2 t128 bt132.1 bt136.1).bind fun t143 => (if t143 = true then (some (t128, bt132.1, bt136.1, bt136.2.2.1, true)) else (some (0, 0, (⟨#[]⟩ : ByteArray), 0, false)))))))) = some (r1, r2, r3, r4, r5) := H
 have A2 := am A20
 clear A20
 replace H := Option.bind_eq_some_iff.mp H
 obtain ⟨⟨t132, t133, t134, t135⟩, A30, H⟩ := H
 replace H : ((spec_l16Src_str.f k t133 t134 t135).bind fun bt136 => (if bt136.2.2.2 = true then (some (0, 0, (⟨#[]⟩ : ByteArray), 0, false)) else ((spec_l16Plain.f).bind fun bt141 => ((spec_OpOk.f k bt141.1 bt141.2 t128 t132 bt136.1).bind fun t143 => (if t143 = true then (some (t128, t132, bt136.1, bt136.2.2.1, true)) else (some (0, 0, (⟨#[]⟩ : ByteArray), 0, false))))))) = some (r1, r2, r3, r4, r5) := H
 have A3 := am A30
 clear A30
 replace H := Option.bind_eq_some_iff.mp H
 obtain ⟨⟨t136, t137, t138, t139⟩, A40, H⟩ := H
 replace H : (if t139 = true then (some (0, 0, (⟨#[]⟩ : ByteArray), 0, false)) else ((spec_l16Plain.f).bind fun bt141 => ((spec_OpOk.f k bt141.1 bt141.2 t128 t132 t136).bind fun t143 => (if t143 = true then (some (t128, t132, t136, t138, true)) else (some (0, 0, (⟨#[]⟩ : ByteArray), 0, false)))))) = some (r1, r2, r3, r4, r5) := H
 have A4 := am A40
 clear A40
 by_cases c5 : t139 = true
 ·subst c5
  have H1 : (some (0, 0, (⟨#[]⟩ : ByteArray), 0, false)) = some (r1, r2, r3, r4, r5) := by rw [if_pos rfl] at H; exact H
  clear H
  have H := H1
  clear H1
  simp only [Option.some.injEq, Prod.mk.injEq] at H
  obtain ⟨rfl, rfl, rfl, rfl, rfl⟩ := H
  go_enter Try.func40, Try.ntmps40
  try go_wp2_with (first | ((with_reducible refine gate_dst (N := 2) rfl ?_); refine box_event ?hg (N := 2) ?hd (cs := #[.int .i64 0, .int .i64 0, .string (⟨#[]⟩ : ByteArray)]) (t := 60) ?hr ?_; (case hd => rfl); (case hg => rfl); (case hr => first | (go_simp; done) | (go_simp; rfl)); intro gb126 hg w6 hbox hb; have n0_ := am (below_step (by repeat (first | (with_reducible first | exact HB.out | apply bal | apply pdn | apply bd1) | exact HB.out)) hb); have n1_ := am (hbox); have n2_ := am ((by rw [hg]; exact (below_size (by repeat (first | (with_reducible first | exact HB.out | apply bal | apply pdn | apply bd1) | exact HB.out))) : w.heap.size ≤ gb126)); have n3_ := am ((by rw [hg]; exact (below_size (by repeat (first | (with_reducible first | exact HB.out | apply bal | apply pdn | apply bd1) | exact HB.out))) : w.heap.size ≤ gb126)); clear HB; have HB := n0_; have BK126 := n1_; have GW126 := n2_; have GE126 := n3_; clear n0_ n1_ n2_ n3_; clear hb hbox hg) | ((with_reducible refine gate_dst (N := 9) rfl ?_); refine box_event ?hg (N := 9) ?hd (cs := #[.string a0, .int .i64 0, .bool false]) (t := 114) ?hr ?_; (case hd => rfl); (case hg => rfl); (case hr => first | (go_simp; done) | (go_simp; rfl)); intro gb127 hg w7 hbox hb; have n0_ := am (kbb (g := gb126) (o := .cells #[.int .i64 0, .int .i64 0, .string (⟨#[]⟩ : ByteArray)] 60 (0, 0)) (by (with_reducible repeat (first | apply kdn | apply kdr | apply kal)); exact BK126.out) hb); have n1_ := am (below_step (by repeat (first | (with_reducible first | exact HB.out | apply bal | apply pdn | apply bd1 | refine bst ?_ GE126.out) | exact HB.out)) hb); have n2_ := am ((show IsS114 w _ gb127 a0 0 false from ⟨hbox, (by rw [hg]; exact (below_size (by repeat (first | (with_reducible first | exact HB.out | apply bal | apply pdn | apply bd1 | refine bst ?_ GE126.out) | exact HB.out))))⟩)); have n3_ := am ((by rw [hg]; exact (below_size (by repeat (first | (with_reducible first | exact HB.out | apply bal | apply pdn | apply bd1 | refine bst ?_ GE126.out) | exact HB.out))) : w.heap.size ≤ gb127)); have n4_ := am ((by rw [hg]; exact (below_size (by repeat (first | (with_reducible first | exact HB.out | apply bal | apply pdn | apply bd1 | refine bst ?_ GE126.out) | exact HB.out))) : w.heap.size ≤ gb127)); have n5_ := am ((by rw [hg]; exact Nat.ne_of_lt (blk_lt (g := gb126) (o := .cells #[.int .i64 0, .int .i64 0, .string (⟨#[]⟩ : ByteArray)] 60 (0, 0)) (by (with_reducible repeat (first | apply kdn | apply kdr | apply kal)); exact BK126.out)) : gb126 ≠ gb127)); have n6_ := am ((by rw [hg]; exact Nat.ne_of_gt (blk_lt (g := gb126) (o := .cells #[.int .i64 0, .int .i64 0, .string (⟨#[]⟩ : ByteArray)] 60 (0, 0)) (by (with_reducible repeat (first | apply kdn | apply kdr | apply kal)); exact BK126.out)) : gb127 ≠ gb126)); clear BK126; clear HB; have BK126 := n0_; have HB := n1_; have HI127 := n2_; have GW127 := n3_; have GE127 := n4_; have NB126_127 := n5_; have NB127_126 := n6_; clear n0_ n1_ n2_ n3_ n4_ n5_ n6_; clear hb hbox hg) | ((with_reducible refine gate_callee (f := 90) rfl ?_); refine goesL_ (some 11) rfl rfl Try.func90 (by kernel_rfl) rfl #[.pointer (some ⟨gb127, 0, none⟩)] rfl (by (try simp only [mta, mco, mni]); first | done | rfl | (simp only [lnd, lnt]; rfl)) ?_; (with_reducible refine (spec_l16Src_num.calls k gb127 a0 0 false t128 t129 t130 t131 w _ ?side1 ?side2 A2.out).mono ?_); (case side1 => repeat (first | (with_reducible first | exact HI127.out | apply IsS114.alloc | apply IsS114.drewN | apply IsS114.drew | apply IsS114.set_0 | apply IsS114.set_1 | apply IsS114.set_2 | refine IsS114.far ?_ NB127_126.out _) | exact HI127.out)); (case side2 => repeat (first | (with_reducible first | exact HB.out | apply bal | apply pdn | apply bd1 | refine bst ?_ (IsS114.ge HI127.out) | refine bst ?_ GE126.out) | exact HB.out)); rintro e w8 ⟨rfl, hi, hb, hk⟩; refine ⟨_, rfl, ?_⟩; have n0_ := am (KeepBut.blk hk (g' := gb126) (o := .cells #[.int .i64 0, .int .i64 0, .string (⟨#[]⟩ : ByteArray)] 60 (0, 0)) (by (with_reducible repeat (first | apply kdn | apply kdr | apply kal)); exact BK126.out) NB126_127.out (by simp)); have n1_ := am (hb); have n2_ := am (hi); clear BK126; clear HB; clear HI127; have BK126 := n0_; have HB := n1_; have HI127 := n2_; clear n0_ n1_ n2_; (try clear hb); (try clear hb2); (try clear hk); (try clear hi)) | ((with_reducible refine gate_callee (f := 90) rfl ?_); refine goesL_ (some 13) rfl rfl Try.func90 (by kernel_rfl) rfl #[.pointer (some ⟨gb127, 0, none⟩)] rfl (by (try simp only [mta, mco, mni]); first | done | rfl | (simp only [lnd, lnt]; rfl)) ?_; (with_reducible refine (spec_l16Src_num.calls k gb127 t129 t130 t131 t132 t133 t134 t135 w _ ?side1 ?side2 A3.out).mono ?_); (case side1 => repeat (first | (with_reducible first | exact HI127.out | apply IsS114.alloc | apply IsS114.drewN | apply IsS114.drew | apply IsS114.set_0 | apply IsS114.set_1 | apply IsS114.set_2 | refine IsS114.far ?_ NB127_126.out _) | exact HI127.out)); (case side2 => repeat (first | (with_reducible first | exact HB.out | apply bal | apply pdn | apply bd1 | refine bst ?_ (IsS114.ge HI127.out) | refine bst ?_ GE126.out) | exact HB.out)); rintro e w9 ⟨rfl, hi, hb, hk⟩; refine ⟨_, rfl, ?_⟩; have n0_ := am (KeepBut.blk hk (g' := gb126) (o := .cells #[.int .i64 0, .int .i64 0, .string (⟨#[]⟩ : ByteArray)] 60 (0, 0)) (by (with_reducible repeat (first | apply kdn | apply kdr | apply kal)); exact BK126.out) NB126_127.out (by simp)); have n1_ := am (hb); have n2_ := am (hi); clear BK126; clear HB; clear HI127; have BK126 := n0_; have HB := n1_; have HI127 := n2_; clear n0_ n1_ n2_; (try clear hb); (try clear hb2); (try clear hk); (try clear hi)) | ((with_reducible refine gate_callee (f := 91) rfl ?_); refine goesL_ (some 15) rfl rfl Try.func91 (by kernel_rfl) rfl #[.pointer (some ⟨gb127, 0, none⟩)] rfl (by (try simp only [mta, mco, mni]); first | done | rfl | (simp only [lnd, lnt]; rfl)) ?_; (with_reducible refine (spec_l16Src_str.calls k gb127 t133 t134 t135 t136 t137 t138 true w _ ?side1 ?side2 A4.out).mono ?_); (case side1 => repeat (first | (with_reducible first | exact HI127.out | apply IsS114.alloc | apply IsS114.drewN | apply IsS114.drew | apply IsS114.set_0 | apply IsS114.set_1 | apply IsS114.set_2 | refine IsS114.far ?_ NB127_126.out _) | exact HI127.out)); (case side2 => repeat (first | (with_reducible first | exact HB.out | apply bal | apply pdn | apply bd1 | refine bst ?_ (IsS114.ge HI127.out) | refine bst ?_ GE126.out) | exact HB.out)); rintro e w10 ⟨rfl, hi, hb, hk⟩; refine ⟨_, rfl, ?_⟩; have n0_ := am (KeepBut.blk hk (g' := gb126) (o := .cells #[.int .i64 0, .int .i64 0, .string (⟨#[]⟩ : ByteArray)] 60 (0, 0)) (by (with_reducible repeat (first | apply kdn | apply kdr | apply kal)); exact BK126.out) NB126_127.out (by simp)); have n1_ := am (hb); have n2_ := am (hi); clear BK126; clear HB; clear HI127; have BK126 := n0_; have HB := n1_; have HI127 := n2_; clear n0_ n1_ n2_; (try clear hb); (try clear hb2); (try clear hk); (try clear hi)) | ((with_reducible refine gate_dst (N := 6) rfl ?_); refine box_event ?hg (N := 6) ?hd (cs := #[.int .i64 0, .int .i64 0, .string (⟨#[]⟩ : ByteArray)]) (t := 60) ?hr ?_; (case hd => rfl); (case hg => rfl); (case hr => first | (go_simp; done) | (go_simp; rfl)); intro gb140 hg w11 hbox hb; have n0_ := am (kbb (g := gb126) (o := .cells #[.int .i64 0, .int .i64 0, .string (⟨#[]⟩ : ByteArray)] 60 (0, 0)) (by (with_reducible repeat (first | apply kdn | apply kdr | apply kal)); exact BK126.out) hb); have n1_ := am (IsS114.below (by repeat (first | (with_reducible first | exact HI127.out | apply IsS114.alloc | apply IsS114.drewN | apply IsS114.drew | apply IsS114.set_0 | apply IsS114.set_1 | apply IsS114.set_2 | refine IsS114.far ?_ NB127_126.out _) | exact HI127.out)) hb); have n2_ := am (below_step (by repeat (first | (with_reducible first | exact HB.out | apply bal | apply pdn | apply bd1 | refine bst ?_ (IsS114.ge HI127.out) | refine bst ?_ GE126.out) | exact HB.out)) hb); have n3_ := am (hbox); have n4_ := am ((by rw [hg]; exact (below_size (by repeat (first | (with_reducible first | exact HB.out | apply bal | apply pdn | apply bd1 | refine bst ?_ (IsS114.ge HI127.out) | refine bst ?_ GE126.out) | exact HB.out))) : w.heap.size ≤ gb140)); have n5_ := am ((by rw [hg]; exact (below_size (by repeat (first | (with_reducible first | exact HB.out | apply bal | apply pdn | apply bd1 | refine bst ?_ (IsS114.ge HI127.out) | refine bst ?_ GE126.out) | exact HB.out))) : w.heap.size ≤ gb140)); have n6_ := am ((by rw [hg]; exact Nat.ne_of_lt (blk_lt (g := gb126) (o := .cells #[.int .i64 0, .int .i64 0, .string (⟨#[]⟩ : ByteArray)] 60 (0, 0)) (by (with_reducible repeat (first | apply kdn | apply kdr | apply kal)); exact BK126.out)) : gb126 ≠ gb140)); have n7_ := am ((by rw [hg]; exact Nat.ne_of_gt (blk_lt (g := gb126) (o := .cells #[.int .i64 0, .int .i64 0, .string (⟨#[]⟩ : ByteArray)] 60 (0, 0)) (by (with_reducible repeat (first | apply kdn | apply kdr | apply kal)); exact BK126.out)) : gb140 ≠ gb126)); have n8_ := am ((by rw [hg]; exact Nat.ne_of_lt (IsS114.lt (show IsS114 w _ gb127 t137 t138 true from by repeat (first | (with_reducible first | exact HI127.out | apply IsS114.alloc | apply IsS114.drewN | apply IsS114.drew | apply IsS114.set_0 | apply IsS114.set_1 | apply IsS114.set_2 | refine IsS114.far ?_ NB127_126.out _) | exact HI127.out))) : gb127 ≠ gb140)); have n9_ := am ((by rw [hg]; exact Nat.ne_of_gt (IsS114.lt (show IsS114 w _ gb127 t137 t138 true from by repeat (first | (with_reducible first | exact HI127.out | apply IsS114.alloc | apply IsS114.drewN | apply IsS114.drew | apply IsS114.set_0 | apply IsS114.set_1 | apply IsS114.set_2 | refine IsS114.far ?_ NB127_126.out _) | exact HI127.out))) : gb140 ≠ gb127)); clear BK126; clear HI127; clear HB; have BK126 := n0_; have HI127 := n1_; have HB := n2_; have BK140 := n3_; have GW140 := n4_; have GE140 := n5_; have NB126_140 := n6_; have NB140_126 := n7_; have NB127_140 := n8_; have NB140_127 := n9_; clear n0_ n1_ n2_ n3_ n4_ n5_ n6_ n7_ n8_ n9_; clear hb hbox hg; have hnb12 := NB140_126.out; have hnc12 := NB126_140.out; have hnb13 := NB140_127.out; have hnc13 := NB127_140.out; have hcz14_0 : w11.cell? ⟨gb140, 0, none⟩ = some (.int .i64 0) := (kce BK140.out 0).trans rfl; have hcz14_1 : w11.cell? ⟨gb140, 1, none⟩ = some (.int .i64 0) := (kce BK140.out 1).trans rfl; have hcz14_2 : w11.cell? ⟨gb140, 2, none⟩ = some (.string (⟨#[]⟩ : ByteArray)) := (kce BK140.out 2).trans rfl; have hfz14_0 := kfr BK140.out 0; have hfz14_1 := kfr BK140.out 1; have hfz14_2 := kfr BK140.out 2; have BK127 := am (HI127.out.1); clear HI127))
  have n0_ : Aside0 ((((w11.setCell ⟨gb140, 0, none⟩ (.int .i64 t128)).setCell ⟨gb140, 1, none⟩ (.int .i64 t132)).setCell ⟨gb140, 2, none⟩ (.string t136)).heap[gb126]? = some (.cells #[.int .i64 0, .int .i64 0, .string (⟨#[]⟩ : ByteArray)] 60 (0, 0))) := ⟨by (with_reducible repeat (first | apply kdn | apply kdr | apply kal)); refine blk_far ?_ NB126_140.out _; (with_reducible repeat (first | apply kdn | apply kdr | apply kal)); refine blk_far ?_ NB126_140.out _; (with_reducible repeat (first | apply kdn | apply kdr | apply kal)); refine blk_far ?_ NB126_140.out _; (with_reducible repeat (first | apply kdn | apply kdr | apply kal)); exact BK126.out⟩
  have n1_ : Aside0 ((((w11.setCell ⟨gb140, 0, none⟩ (.int .i64 t128)).setCell ⟨gb140, 1, none⟩ (.int .i64 t132)).setCell ⟨gb140, 2, none⟩ (.string t136)).heap[gb127]? = some (.cells #[.string t137, .int .i64 t138, .bool true] 114 (0, 0))) := ⟨by (with_reducible repeat (first | apply kdn | apply kdr | apply kal)); refine blk_far ?_ NB127_140.out _; (with_reducible repeat (first | apply kdn | apply kdr | apply kal)); refine blk_far ?_ NB127_140.out _; (with_reducible repeat (first | apply kdn | apply kdr | apply kal)); refine blk_far ?_ NB127_140.out _; (with_reducible repeat (first | apply kdn | apply kdr | apply kal)); exact BK127.out⟩
  have n2_ : Aside0 ((((w11.setCell ⟨gb140, 0, none⟩ (.int .i64 t128)).setCell ⟨gb140, 1, none⟩ (.int .i64 t132)).setCell ⟨gb140, 2, none⟩ (.string t136)).heap[gb140]? = some (.cells #[.int .i64 t128, .int .i64 t132, .string t136] 60 (0, 0))) := ⟨by (with_reducible repeat (first | apply kdn | apply kdr | apply kal)); refine blk_put (cs := #[.int .i64 t128, .int .i64 t132, .string (⟨#[]⟩ : ByteArray)]) ?_ 2 _ rfl; (with_reducible repeat (first | apply kdn | apply kdr | apply kal)); refine blk_put (cs := #[.int .i64 t128, .int .i64 0, .string (⟨#[]⟩ : ByteArray)]) ?_ 1 _ rfl; (with_reducible repeat (first | apply kdn | apply kdr | apply kal)); refine blk_put (cs := #[.int .i64 0, .int .i64 0, .string (⟨#[]⟩ : ByteArray)]) ?_ 0 _ rfl; (with_reducible repeat (first | apply kdn | apply kdr | apply kal)); exact BK140.out⟩
  have n3_ : Aside0 (Below w.heap.size w (((w11.setCell ⟨gb140, 0, none⟩ (.int .i64 t128)).setCell ⟨gb140, 1, none⟩ (.int .i64 t132)).setCell ⟨gb140, 2, none⟩ (.string t136))) := ⟨by repeat (first | (with_reducible first | exact HB.out | apply bal | apply pdn | apply bd1 | refine bst ?_ GE126.out | refine bst ?_ GE127.out | refine bst ?_ GE140.out) | exact HB.out)⟩
  (try clear BK126)
  (try clear BK127)
  (try clear BK140)
  (try clear HB)
  generalize (((w11.setCell ⟨gb140, 0, none⟩ (.int .i64 t128)).setCell ⟨gb140, 1, none⟩ (.int .i64 t132)).setCell ⟨gb140, 2, none⟩ (.string t136)) = w15 at n0_ n1_ n2_ n3_ ⊢
  have BK126 := n0_
  have BK127 := n1_
  have BK140 := n2_
  have HB := n3_
  clear n0_ n1_ n2_ n3_
  have n0_ := am (kdr BK126.out)
  have n1_ := am (kdr BK127.out)
  have n2_ := am (kdr BK140.out)
  have n3_ := am (bd1 HB.out)
  clear BK126
  clear BK127
  clear BK140
  clear HB
  have BK126 := n0_
  have BK127 := n1_
  have BK140 := n2_
  have HB := n3_
  clear n0_ n1_ n2_ n3_
  refine start_ (n := 10) (S := fun w' => w'.cell? ⟨gb127, 0, none⟩ = some (.string t137) ∧ w'.cell? ⟨gb127, 1, none⟩ = some (.int .i64 t138) ∧ w'.cell? ⟨gb127, 2, none⟩ = some (.bool true)) (ds := []) #[false, false, false, false, false, false, false, false, false, false] (by kernel_rfl) rfl rfl ⟨(kce BK127.out 0).trans rfl, (kce BK127.out 1).trans rfl, (kce BK127.out 2).trans rfl⟩ (fun hHeld => ?_); refine with_tabW spec_GetOp.tab3 spec_GetOp.bits3 (fun HT_ HW_ => ?_)
  generalize w15.drew = w16 at BK126 BK127 BK140 HB hHeld ⊢
  refine pure_ (i := 0) (N := some 17) (v := ?_) (a' := ?_) #[true, false, false, false, false, false, false, false, false, false] rfl rfl (any_of HT_.out (by kernel_rfl)) (fun _ _ _ h => h) (Or.inl ⟨by rfl, ?_⟩) ?_ ?_
  rotate_left
  ·intro w'
   go_simp
   with_reducible rfl
  rotate_left
  ·simp only [Act.put, sit, scz, scs, i64_w, i32_w]
   rfl
  refine pure_ (i := 1) (N := some 18) (v := ?_) (a' := ?_) #[true, true, false, false, false, false, false, false, false, false] rfl rfl (any_of HT_.out (by kernel_rfl)) (fun _ _ _ h => h) (Or.inl ⟨by rfl, ?_⟩) ?_ ?_
  rotate_left
  ·intro w'
   go_simp
   with_reducible rfl
  rotate_left
  ·simp only [Act.put, sit, scz, scs, i64_w, i32_w]
   rfl
  refine pure_ (i := 2) (N := some 19) (v := ?_) (a' := ?_) #[true, true, true, false, false, false, false, false, false, false] rfl rfl (any_of HT_.out (by kernel_rfl)) (fun _ _ _ h => h) (Or.inl ⟨by rfl, ?_⟩) ?_ ?_
  rotate_left
  ·intro w'
   go_simp
   with_reducible rfl
  rotate_left
  ·simp only [Act.put, sit, scz, scs, i64_w, i32_w]
   rfl
  refine take_ (i := 3) (N := some 20) (v := ?_) (a' := ?_) #[true, true, true, true, false, false, false, false, false, false] rfl rfl (take_ofW HT_.out HW_.out (by kernel_rfl)) (fun _ _ _ h => h) (Or.inl ⟨by rfl, ?_⟩) hHeld ?_ ?_
  rotate_left
  ·rintro w' ⟨s0, s1, s2⟩
   go_simp
   with_reducible rfl
  rotate_left
  ·simp only [Act.put, sit, scz, scs, i64_w, i32_w]
   rfl
  refine pure_ (i := 4) (N := some 21) (v := ?_) (a' := ?_) #[true, true, true, true, true, false, false, false, false, false] rfl rfl (any_of HT_.out (by kernel_rfl)) (fun _ _ _ h => h) (Or.inl ⟨by rfl, ?_⟩) ?_ ?_
  rotate_left
  ·intro w'
   go_simp
   with_reducible rfl
  rotate_left
  ·simp only [Act.put, sit, scz, scs, i64_w, i32_w]
   rfl
  refine pure_ (i := 5) (N := some 22) (v := undef) (a' := ?_) #[true, true, true, true, true, true, false, false, false, false] rfl rfl (any_of HT_.out (by kernel_rfl)) (fun _ _ _ h => h) (Or.inr ⟨by rfl, rfl⟩) ?_ ?_
  rotate_left
  ·simp only [Act.put, sit, scz, scs, i64_w, i32_w]
   rfl
  refine pure_ (i := 6) (N := some 23) (v := undef) (a' := ?_) #[true, true, true, true, true, true, true, false, false, false] rfl rfl (any_of HT_.out (by kernel_rfl)) (fun _ _ _ h => h) (Or.inr ⟨by rfl, rfl⟩) ?_ ?_
  rotate_left
  ·simp only [Act.put, sit, scz, scs, i64_w, i32_w]
   rfl
  refine pure_ (i := 7) (N := some 24) (v := undef) (a' := ?_) #[true, true, true, true, true, true, true, true, false, false] rfl rfl (any_of HT_.out (by kernel_rfl)) (fun _ _ _ h => h) (Or.inr ⟨by rfl, rfl⟩) ?_ ?_
  rotate_left
  ·simp only [Act.put, sit, scz, scs, i64_w, i32_w]
   rfl
  refine pure_ (i := 8) (N := some 25) (v := undef) (a' := ?_) #[true, true, true, true, true, true, true, true, true, false] rfl rfl (any_of HT_.out (by kernel_rfl)) (fun _ _ _ h => h) (Or.inr ⟨by rfl, rfl⟩) ?_ ?_
  rotate_left
  ·simp only [Act.put, sit, scz, scs, i64_w, i32_w]
   rfl
  refine pure_ (i := 9) (N := some 26) (v := ?_) (a' := ?_) #[true, true, true, true, true, true, true, true, true, true] rfl rfl (any_of HT_.out (by kernel_rfl)) (fun _ _ _ h => h) (Or.inl ⟨by rfl, ?_⟩) ?_ ?_
  rotate_left
  ·intro w'
   go_simp
   with_reducible rfl
  rotate_left
  ·simp only [Act.put, sit, scz, scs, i64_w, i32_w]
   rfl
  refine done_ (done_of HT_.out (by kernel_rfl)) ?_
  have hnb17 := NB126_127.out
  have hnc17 := NB127_126.out
  have hcz18_0 : w16.cell? ⟨gb126, 0, none⟩ = some (.int .i64 0) := (kce BK126.out 0).trans rfl
  have hcz18_1 : w16.cell? ⟨gb126, 1, none⟩ = some (.int .i64 0) := (kce BK126.out 1).trans rfl
  have hcz18_2 : w16.cell? ⟨gb126, 2, none⟩ = some (.string (⟨#[]⟩ : ByteArray)) := (kce BK126.out 2).trans rfl
  have hfz18_0 := kfr BK126.out 0
  have hfz18_1 := kfr BK126.out 1
  have hfz18_2 := kfr BK126.out 2
  try go_wp2
  refine bodyPost_ret (results_ctt rfl _ _ gb126 60 #[.int .i64 0, .int .i64 0, .string (⟨#[]⟩ : ByteArray)] (0, 0) _ rfl (by (with_reducible repeat (first | apply kdn | apply kdr | apply kal)); refine blk_put (cs := #[.int .i64 0, .int .i64 0, .string (⟨#[]⟩ : ByteArray)]) ?_ 2 _ rfl; (with_reducible repeat (first | apply kdn | apply kdr | apply kal)); refine blk_put (cs := #[.int .i64 0, .int .i64 0, .string (⟨#[]⟩ : ByteArray)]) ?_ 1 _ rfl; (with_reducible repeat (first | apply kdn | apply kdr | apply kal)); refine blk_put (cs := #[.int .i64 0, .int .i64 0, .string (⟨#[]⟩ : ByteArray)]) ?_ 0 _ rfl; (with_reducible repeat (first | apply kdn | apply kdr | apply kal)); exact BK126.out) Try.underlying60 rfl (by kernel_rfl)) rfl ?_
  exact ⟨by first | rfl | (simp [errW_none, errW_some] <;> rfl) | (simp [*, errW_none, errW_some] <;> rfl), by repeat (first | (with_reducible first | exact HB.out | apply bal | apply pdn | apply bd1 | refine bst ?_ GE126.out | refine bst ?_ GE127.out | refine bst ?_ GE140.out) | exact HB.out)⟩
 ·replace c5 := Bool.eq_false_iff.mpr c5
  subst c5
  have H1 : ((spec_l16Plain.f).bind fun bt141 => ((spec_OpOk.f k bt141.1 bt141.2 t128 t132 t136).bind fun t143 => (if t143 = true then (some (t128, t132, t136, t138, true)) else (some (0, 0, (⟨#[]⟩ : ByteArray), 0, false))))) = some (r1, r2, r3, r4, r5) := by rw [if_neg (show ¬ (false = true) by decide)] at H; exact H
  clear H
  have H := H1
  clear H1
  replace H := Option.bind_eq_some_iff.mp H
  obtain ⟨⟨t141, t142⟩, A190, H⟩ := H
  replace H : ((spec_OpOk.f k t141 t142 t128 t132 t136).bind fun t143 => (if t143 = true then (some (t128, t132, t136, t138, true)) else (some (0, 0, (⟨#[]⟩ : ByteArray), 0, false)))) = some (r1, r2, r3, r4, r5) := H
  have A19 := am A190
  clear A190
  replace H := Option.bind_eq_some_iff.mp H
  obtain ⟨t143, A200, H⟩ := H
  replace H : (if t143 = true then (some (t128, t132, t136, t138, true)) else (some (0, 0, (⟨#[]⟩ : ByteArray), 0, false))) = some (r1, r2, r3, r4, r5) := H
  have A20 := am A200
  clear A200
  by_cases c21 : t143 = true
  ·subst c21
   have H1 : (some (t128, t132, t136, t138, true)) = some (r1, r2, r3, r4, r5) := by rw [if_pos rfl] at H; exact H
   clear H
   have H := H1
   clear H1
   simp only [Option.some.injEq, Prod.mk.injEq] at H
   obtain ⟨rfl, rfl, rfl, rfl, rfl⟩ := H
   go_enter Try.func40, Try.ntmps40
   try go_wp2_with (first | ((with_reducible refine gate_dst (N := 2) rfl ?_); refine box_event ?hg (N := 2) ?hd (cs := #[.int .i64 0, .int .i64 0, .string (⟨#[]⟩ : ByteArray)]) (t := 60) ?hr ?_; (case hd => rfl); (case hg => rfl); (case hr => first | (go_simp; done) | (go_simp; rfl)); intro gb126 hg w22 hbox hb; have n0_ := am (below_step (by repeat (first | (with_reducible first | exact HB.out | apply bal | apply pdn | apply bd1) | exact HB.out)) hb); have n1_ := am (hbox); have n2_ := am ((by rw [hg]; exact (below_size (by repeat (first | (with_reducible first | exact HB.out | apply bal | apply pdn | apply bd1) | exact HB.out))) : w.heap.size ≤ gb126)); have n3_ := am ((by rw [hg]; exact (below_size (by repeat (first | (with_reducible first | exact HB.out | apply bal | apply pdn | apply bd1) | exact HB.out))) : w.heap.size ≤ gb126)); clear HB; have HB := n0_; have BK126 := n1_; have GW126 := n2_; have GE126 := n3_; clear n0_ n1_ n2_ n3_; clear hb hbox hg) | ((with_reducible refine gate_dst (N := 9) rfl ?_); refine box_event ?hg (N := 9) ?hd (cs := #[.string a0, .int .i64 0, .bool false]) (t := 114) ?hr ?_; (case hd => rfl); (case hg => rfl); (case hr => first | (go_simp; done) | (go_simp; rfl)); intro gb127 hg w23 hbox hb; have n0_ := am (kbb (g := gb126) (o := .cells #[.int .i64 0, .int .i64 0, .string (⟨#[]⟩ : ByteArray)] 60 (0, 0)) (by (with_reducible repeat (first | apply kdn | apply kdr | apply kal)); exact BK126.out) hb); have n1_ := am (below_step (by repeat (first | (with_reducible first | exact HB.out | apply bal | apply pdn | apply bd1 | refine bst ?_ GE126.out) | exact HB.out)) hb); have n2_ := am ((show IsS114 w _ gb127 a0 0 false from ⟨hbox, (by rw [hg]; exact (below_size (by repeat (first | (with_reducible first | exact HB.out | apply bal | apply pdn | apply bd1 | refine bst ?_ GE126.out) | exact HB.out))))⟩)); have n3_ := am ((by rw [hg]; exact (below_size (by repeat (first | (with_reducible first | exact HB.out | apply bal | apply pdn | apply bd1 | refine bst ?_ GE126.out) | exact HB.out))) : w.heap.size ≤ gb127)); have n4_ := am ((by rw [hg]; exact (below_size (by repeat (first | (with_reducible first | exact HB.out | apply bal | apply pdn | apply bd1 | refine bst ?_ GE126.out) | exact HB.out))) : w.heap.size ≤ gb127)); have n5_ := am ((by rw [hg]; exact Nat.ne_of_lt (blk_lt (g := gb126) (o := .cells #[.int .i64 0, .int .i64 0, .string (⟨#[]⟩ : ByteArray)] 60 (0, 0)) (by (with_reducible repeat (first | apply kdn | apply kdr | apply kal)); exact BK126.out)) : gb126 ≠ gb127)); have n6_ := am ((by rw [hg]; exact Nat.ne_of_gt (blk_lt (g := gb126) (o := .cells #[.int .i64 0, .int .i64 0, .string (⟨#[]⟩ : ByteArray)] 60 (0, 0)) (by (with_reducible repeat (first | apply kdn | apply kdr | apply kal)); exact BK126.out)) : gb127 ≠ gb126)); clear BK126; clear HB; have BK126 := n0_; have HB := n1_; have HI127 := n2_; have GW127 := n3_; have GE127 := n4_; have NB126_127 := n5_; have NB127_126 := n6_; clear n0_ n1_ n2_ n3_ n4_ n5_ n6_; clear hb hbox hg) | ((with_reducible refine gate_callee (f := 90) rfl ?_); refine goesL_ (some 11) rfl rfl Try.func90 (by kernel_rfl) rfl #[.pointer (some ⟨gb127, 0, none⟩)] rfl (by (try simp only [mta, mco, mni]); first | done | rfl | (simp only [lnd, lnt]; rfl)) ?_; (with_reducible refine (spec_l16Src_num.calls k gb127 a0 0 false t128 t129 t130 t131 w _ ?side1 ?side2 A2.out).mono ?_); (case side1 => repeat (first | (with_reducible first | exact HI127.out | apply IsS114.alloc | apply IsS114.drewN | apply IsS114.drew | apply IsS114.set_0 | apply IsS114.set_1 | apply IsS114.set_2 | refine IsS114.far ?_ NB127_126.out _) | exact HI127.out)); (case side2 => repeat (first | (with_reducible first | exact HB.out | apply bal | apply pdn | apply bd1 | refine bst ?_ (IsS114.ge HI127.out) | refine bst ?_ GE126.out) | exact HB.out)); rintro e w24 ⟨rfl, hi, hb, hk⟩; refine ⟨_, rfl, ?_⟩; have n0_ := am (KeepBut.blk hk (g' := gb126) (o := .cells #[.int .i64 0, .int .i64 0, .string (⟨#[]⟩ : ByteArray)] 60 (0, 0)) (by (with_reducible repeat (first | apply kdn | apply kdr | apply kal)); exact BK126.out) NB126_127.out (by simp)); have n1_ := am (hb); have n2_ := am (hi); clear BK126; clear HB; clear HI127; have BK126 := n0_; have HB := n1_; have HI127 := n2_; clear n0_ n1_ n2_; (try clear hb); (try clear hb2); (try clear hk); (try clear hi)) | ((with_reducible refine gate_callee (f := 90) rfl ?_); refine goesL_ (some 13) rfl rfl Try.func90 (by kernel_rfl) rfl #[.pointer (some ⟨gb127, 0, none⟩)] rfl (by (try simp only [mta, mco, mni]); first | done | rfl | (simp only [lnd, lnt]; rfl)) ?_; (with_reducible refine (spec_l16Src_num.calls k gb127 t129 t130 t131 t132 t133 t134 t135 w _ ?side1 ?side2 A3.out).mono ?_); (case side1 => repeat (first | (with_reducible first | exact HI127.out | apply IsS114.alloc | apply IsS114.drewN | apply IsS114.drew | apply IsS114.set_0 | apply IsS114.set_1 | apply IsS114.set_2 | refine IsS114.far ?_ NB127_126.out _) | exact HI127.out)); (case side2 => repeat (first | (with_reducible first | exact HB.out | apply bal | apply pdn | apply bd1 | refine bst ?_ (IsS114.ge HI127.out) | refine bst ?_ GE126.out) | exact HB.out)); rintro e w25 ⟨rfl, hi, hb, hk⟩; refine ⟨_, rfl, ?_⟩; have n0_ := am (KeepBut.blk hk (g' := gb126) (o := .cells #[.int .i64 0, .int .i64 0, .string (⟨#[]⟩ : ByteArray)] 60 (0, 0)) (by (with_reducible repeat (first | apply kdn | apply kdr | apply kal)); exact BK126.out) NB126_127.out (by simp)); have n1_ := am (hb); have n2_ := am (hi); clear BK126; clear HB; clear HI127; have BK126 := n0_; have HB := n1_; have HI127 := n2_; clear n0_ n1_ n2_; (try clear hb); (try clear hb2); (try clear hk); (try clear hi)) | ((with_reducible refine gate_callee (f := 91) rfl ?_); refine goesL_ (some 15) rfl rfl Try.func91 (by kernel_rfl) rfl #[.pointer (some ⟨gb127, 0, none⟩)] rfl (by (try simp only [mta, mco, mni]); first | done | rfl | (simp only [lnd, lnt]; rfl)) ?_; (with_reducible refine (spec_l16Src_str.calls k gb127 t133 t134 t135 t136 t137 t138 false w _ ?side1 ?side2 A4.out).mono ?_); (case side1 => repeat (first | (with_reducible first | exact HI127.out | apply IsS114.alloc | apply IsS114.drewN | apply IsS114.drew | apply IsS114.set_0 | apply IsS114.set_1 | apply IsS114.set_2 | refine IsS114.far ?_ NB127_126.out _) | exact HI127.out)); (case side2 => repeat (first | (with_reducible first | exact HB.out | apply bal | apply pdn | apply bd1 | refine bst ?_ (IsS114.ge HI127.out) | refine bst ?_ GE126.out) | exact HB.out)); rintro e w26 ⟨rfl, hi, hb, hk⟩; refine ⟨_, rfl, ?_⟩; have n0_ := am (KeepBut.blk hk (g' := gb126) (o := .cells #[.int .i64 0, .int .i64 0, .string (⟨#[]⟩ : ByteArray)] 60 (0, 0)) (by (with_reducible repeat (first | apply kdn | apply kdr | apply kal)); exact BK126.out) NB126_127.out (by simp)); have n1_ := am (hb); have n2_ := am (hi); clear BK126; clear HB; clear HI127; have BK126 := n0_; have HB := n1_; have HI127 := n2_; clear n0_ n1_ n2_; (try clear hb); (try clear hb2); (try clear hk); (try clear hi)) | ((with_reducible refine gate_dst (N := 6) rfl ?_); refine box_event ?hg (N := 6) ?hd (cs := #[.int .i64 0, .int .i64 0, .string (⟨#[]⟩ : ByteArray)]) (t := 60) ?hr ?_; (case hd => rfl); (case hg => rfl); (case hr => first | (go_simp; done) | (go_simp; rfl)); intro gb140 hg w27 hbox hb; have n0_ := am (kbb (g := gb126) (o := .cells #[.int .i64 0, .int .i64 0, .string (⟨#[]⟩ : ByteArray)] 60 (0, 0)) (by (with_reducible repeat (first | apply kdn | apply kdr | apply kal)); exact BK126.out) hb); have n1_ := am (IsS114.below (by repeat (first | (with_reducible first | exact HI127.out | apply IsS114.alloc | apply IsS114.drewN | apply IsS114.drew | apply IsS114.set_0 | apply IsS114.set_1 | apply IsS114.set_2 | refine IsS114.far ?_ NB127_126.out _) | exact HI127.out)) hb); have n2_ := am (below_step (by repeat (first | (with_reducible first | exact HB.out | apply bal | apply pdn | apply bd1 | refine bst ?_ (IsS114.ge HI127.out) | refine bst ?_ GE126.out) | exact HB.out)) hb); have n3_ := am (hbox); have n4_ := am ((by rw [hg]; exact (below_size (by repeat (first | (with_reducible first | exact HB.out | apply bal | apply pdn | apply bd1 | refine bst ?_ (IsS114.ge HI127.out) | refine bst ?_ GE126.out) | exact HB.out))) : w.heap.size ≤ gb140)); have n5_ := am ((by rw [hg]; exact (below_size (by repeat (first | (with_reducible first | exact HB.out | apply bal | apply pdn | apply bd1 | refine bst ?_ (IsS114.ge HI127.out) | refine bst ?_ GE126.out) | exact HB.out))) : w.heap.size ≤ gb140)); have n6_ := am ((by rw [hg]; exact Nat.ne_of_lt (blk_lt (g := gb126) (o := .cells #[.int .i64 0, .int .i64 0, .string (⟨#[]⟩ : ByteArray)] 60 (0, 0)) (by (with_reducible repeat (first | apply kdn | apply kdr | apply kal)); exact BK126.out)) : gb126 ≠ gb140)); have n7_ := am ((by rw [hg]; exact Nat.ne_of_gt (blk_lt (g := gb126) (o := .cells #[.int .i64 0, .int .i64 0, .string (⟨#[]⟩ : ByteArray)] 60 (0, 0)) (by (with_reducible repeat (first | apply kdn | apply kdr | apply kal)); exact BK126.out)) : gb140 ≠ gb126)); have n8_ := am ((by rw [hg]; exact Nat.ne_of_lt (IsS114.lt (show IsS114 w _ gb127 t137 t138 false from by repeat (first | (with_reducible first | exact HI127.out | apply IsS114.alloc | apply IsS114.drewN | apply IsS114.drew | apply IsS114.set_0 | apply IsS114.set_1 | apply IsS114.set_2 | refine IsS114.far ?_ NB127_126.out _) | exact HI127.out))) : gb127 ≠ gb140)); have n9_ := am ((by rw [hg]; exact Nat.ne_of_gt (IsS114.lt (show IsS114 w _ gb127 t137 t138 false from by repeat (first | (with_reducible first | exact HI127.out | apply IsS114.alloc | apply IsS114.drewN | apply IsS114.drew | apply IsS114.set_0 | apply IsS114.set_1 | apply IsS114.set_2 | refine IsS114.far ?_ NB127_126.out _) | exact HI127.out))) : gb140 ≠ gb127)); clear BK126; clear HI127; clear HB; have BK126 := n0_; have HI127 := n1_; have HB := n2_; have BK140 := n3_; have GW140 := n4_; have GE140 := n5_; have NB126_140 := n6_; have NB140_126 := n7_; have NB127_140 := n8_; have NB140_127 := n9_; clear n0_ n1_ n2_ n3_ n4_ n5_ n6_ n7_ n8_ n9_; clear hb hbox hg; have hnb28 := NB140_126.out; have hnc28 := NB126_140.out; have hnb29 := NB140_127.out; have hnc29 := NB127_140.out; have hcz30_0 : w27.cell? ⟨gb140, 0, none⟩ = some (.int .i64 0) := (kce BK140.out 0).trans rfl; have hcz30_1 : w27.cell? ⟨gb140, 1, none⟩ = some (.int .i64 0) := (kce BK140.out 1).trans rfl; have hcz30_2 : w27.cell? ⟨gb140, 2, none⟩ = some (.string (⟨#[]⟩ : ByteArray)) := (kce BK140.out 2).trans rfl; have hfz30_0 := kfr BK140.out 0; have hfz30_1 := kfr BK140.out 1; have hfz30_2 := kfr BK140.out 2; have BK127 := am (HI127.out.1); clear HI127))
   have n0_ : Aside0 ((((w27.setCell ⟨gb140, 0, none⟩ (.int .i64 t128)).setCell ⟨gb140, 1, none⟩ (.int .i64 t132)).setCell ⟨gb140, 2, none⟩ (.string t136)).heap[gb126]? = some (.cells #[.int .i64 0, .int .i64 0, .string (⟨#[]⟩ : ByteArray)] 60 (0, 0))) := ⟨by (with_reducible repeat (first | apply kdn | apply kdr | apply kal)); refine blk_far ?_ NB126_140.out _; (with_reducible repeat (first | apply kdn | apply kdr | apply kal)); refine blk_far ?_ NB126_140.out _; (with_reducible repeat (first | apply kdn | apply kdr | apply kal)); refine blk_far ?_ NB126_140.out _; (with_reducible repeat (first | apply kdn | apply kdr | apply kal)); exact BK126.out⟩
   have n1_ : Aside0 ((((w27.setCell ⟨gb140, 0, none⟩ (.int .i64 t128)).setCell ⟨gb140, 1, none⟩ (.int .i64 t132)).setCell ⟨gb140, 2, none⟩ (.string t136)).heap[gb127]? = some (.cells #[.string t137, .int .i64 t138, .bool false] 114 (0, 0))) := ⟨by (with_reducible repeat (first | apply kdn | apply kdr | apply kal)); refine blk_far ?_ NB127_140.out _; (with_reducible repeat (first | apply kdn | apply kdr | apply kal)); refine blk_far ?_ NB127_140.out _; (with_reducible repeat (first | apply kdn | apply kdr | apply kal)); refine blk_far ?_ NB127_140.out _; (with_reducible repeat (first | apply kdn | apply kdr | apply kal)); exact BK127.out⟩
   have n2_ : Aside0 ((((w27.setCell ⟨gb140, 0, none⟩ (.int .i64 t128)).setCell ⟨gb140, 1, none⟩ (.int .i64 t132)).setCell ⟨gb140, 2, none⟩ (.string t136)).heap[gb140]? = some (.cells #[.int .i64 t128, .int .i64 t132, .string t136] 60 (0, 0))) := ⟨by (with_reducible repeat (first | apply kdn | apply kdr | apply kal)); refine blk_put (cs := #[.int .i64 t128, .int .i64 t132, .string (⟨#[]⟩ : ByteArray)]) ?_ 2 _ rfl; (with_reducible repeat (first | apply kdn | apply kdr | apply kal)); refine blk_put (cs := #[.int .i64 t128, .int .i64 0, .string (⟨#[]⟩ : ByteArray)]) ?_ 1 _ rfl; (with_reducible repeat (first | apply kdn | apply kdr | apply kal)); refine blk_put (cs := #[.int .i64 0, .int .i64 0, .string (⟨#[]⟩ : ByteArray)]) ?_ 0 _ rfl; (with_reducible repeat (first | apply kdn | apply kdr | apply kal)); exact BK140.out⟩
   have n3_ : Aside0 (Below w.heap.size w (((w27.setCell ⟨gb140, 0, none⟩ (.int .i64 t128)).setCell ⟨gb140, 1, none⟩ (.int .i64 t132)).setCell ⟨gb140, 2, none⟩ (.string t136))) := ⟨by repeat (first | (with_reducible first | exact HB.out | apply bal | apply pdn | apply bd1 | refine bst ?_ GE126.out | refine bst ?_ GE127.out | refine bst ?_ GE140.out) | exact HB.out)⟩
   (try clear BK126)
   (try clear BK127)
   (try clear BK140)
   (try clear HB)
   generalize (((w27.setCell ⟨gb140, 0, none⟩ (.int .i64 t128)).setCell ⟨gb140, 1, none⟩ (.int .i64 t132)).setCell ⟨gb140, 2, none⟩ (.string t136)) = w31 at n0_ n1_ n2_ n3_ ⊢
   have BK126 := n0_
   have BK127 := n1_
   have BK140 := n2_
   have HB := n3_
   clear n0_ n1_ n2_ n3_
   have n0_ := am (kdr BK126.out)
   have n1_ := am (kdr BK127.out)
   have n2_ := am (kdr BK140.out)
   have n3_ := am (bd1 HB.out)
   clear BK126
   clear BK127
   clear BK140
   clear HB
   have BK126 := n0_
   have BK127 := n1_
   have BK140 := n2_
   have HB := n3_
   clear n0_ n1_ n2_ n3_
   refine start_ (n := 10) (S := fun w' => w'.cell? ⟨gb127, 0, none⟩ = some (.string t137) ∧ w'.cell? ⟨gb127, 1, none⟩ = some (.int .i64 t138) ∧ w'.cell? ⟨gb127, 2, none⟩ = some (.bool false) ∧ w'.cell? ⟨gb140, 0, none⟩ = some (.int .i64 t128) ∧ w'.cell? ⟨gb140, 1, none⟩ = some (.int .i64 t132) ∧ w'.cell? ⟨gb140, 2, none⟩ = some (.string t136)) (ds := []) #[false, false, false, false, false, false, false, false, false, false] (by kernel_rfl) rfl rfl ⟨(kce BK127.out 0).trans rfl, (kce BK127.out 1).trans rfl, (kce BK127.out 2).trans rfl, (kce BK140.out 0).trans rfl, (kce BK140.out 1).trans rfl, (kce BK140.out 2).trans rfl⟩ (fun hHeld => ?_); refine with_tabW spec_GetOp.tab3 spec_GetOp.bits3 (fun HT_ HW_ => ?_)
   generalize w31.drew = w32 at BK126 BK127 BK140 HB hHeld ⊢
   refine pure_ (i := 0) (N := some 17) (v := ?_) (a' := ?_) #[true, false, false, false, false, false, false, false, false, false] rfl rfl (any_of HT_.out (by kernel_rfl)) (fun _ _ _ h => h) (Or.inl ⟨by rfl, ?_⟩) ?_ ?_
   rotate_left
   ·intro w'
    go_simp
    with_reducible rfl
   rotate_left
   ·simp only [Act.put, sit, scz, scs, i64_w, i32_w]
    rfl
   refine pure_ (i := 1) (N := some 18) (v := ?_) (a' := ?_) #[true, true, false, false, false, false, false, false, false, false] rfl rfl (any_of HT_.out (by kernel_rfl)) (fun _ _ _ h => h) (Or.inl ⟨by rfl, ?_⟩) ?_ ?_
   rotate_left
   ·intro w'
    go_simp
    with_reducible rfl
   rotate_left
   ·simp only [Act.put, sit, scz, scs, i64_w, i32_w]
    rfl
   refine pure_ (i := 2) (N := some 19) (v := ?_) (a' := ?_) #[true, true, true, false, false, false, false, false, false, false] rfl rfl (any_of HT_.out (by kernel_rfl)) (fun _ _ _ h => h) (Or.inl ⟨by rfl, ?_⟩) ?_ ?_
   rotate_left
   ·intro w'
    go_simp
    with_reducible rfl
   rotate_left
   ·simp only [Act.put, sit, scz, scs, i64_w, i32_w]
    rfl
   refine take_ (i := 3) (N := some 20) (v := ?_) (a' := ?_) #[true, true, true, true, false, false, false, false, false, false] rfl rfl (take_ofW HT_.out HW_.out (by kernel_rfl)) (fun _ _ _ h => h) (Or.inl ⟨by rfl, ?_⟩) hHeld ?_ ?_
   rotate_left
   ·rintro w' ⟨s0, s1, s2, s3, s4, s5⟩
    go_simp
    with_reducible rfl
   rotate_left
   ·simp only [Act.put, sit, scz, scs, i64_w, i32_w]
    rfl
   refine pure_ (i := 4) (N := some 21) (v := ?_) (a' := ?_) #[true, true, true, true, true, false, false, false, false, false] rfl rfl (any_of HT_.out (by kernel_rfl)) (fun _ _ _ h => h) (Or.inl ⟨by rfl, ?_⟩) ?_ ?_
   rotate_left
   ·intro w'
    go_simp
    with_reducible rfl
   rotate_left
   ·simp only [Act.put, sit, scz, scs, i64_w, i32_w]
    rfl
   refine take_ (i := 6) (N := some 23) (v := ?_) (a' := ?_) #[true, true, true, true, true, false, true, false, false, false] rfl rfl (take_ofW HT_.out HW_.out (by kernel_rfl)) (fun _ _ _ h => h) (Or.inl ⟨by rfl, ?_⟩) hHeld ?_ ?_
   rotate_left
   ·rintro w' ⟨s0, s1, s2, s3, s4, s5⟩
    go_simp
    with_reducible rfl
   rotate_left
   ·simp only [Act.put, sit, scz, scs, i64_w, i32_w]
    rfl
   refine one_ (i := 5) (N := some 22) #[true, true, true, true, true, true, true, false, false, false] rfl rfl (one_of HT_.out (by kernel_rfl)) (by decide) (fun K hK => ?_)
   refine goes_ Try.func83 (by kernel_rfl) rfl #[] (by rfl) rfl rfl (by (try simp only [mta, mco, mni]); first | done | rfl | (simp only [lnd, lnt]; rfl)) ?_
   with_reducible refine (spec_l16Plain.calls  t141 t142 _ A19.out).mono ?_
   rintro e w33 ⟨rfl, hb⟩
   refine ⟨_, rfl, ?_⟩
   have n0_ := am (kbb (g := gb126) (o := .cells #[.int .i64 0, .int .i64 0, .string (⟨#[]⟩ : ByteArray)] 60 (0, 0)) (by (with_reducible repeat (first | apply kdn | apply kdr | apply kal)); exact BK126.out) hb)
   have n1_ := am (kbb (g := gb127) (o := .cells #[.string t137, .int .i64 t138, .bool false] 114 (0, 0)) (by (with_reducible repeat (first | apply kdn | apply kdr | apply kal)); exact BK127.out) hb)
   have n2_ := am (kbb (g := gb140) (o := .cells #[.int .i64 t128, .int .i64 t132, .string t136] 60 (0, 0)) (by (with_reducible repeat (first | apply kdn | apply kdr | apply kal)); exact BK140.out) hb)
   have n3_ := am (below_step (by repeat (first | (with_reducible first | exact HB.out | apply bal | apply pdn | apply bd1 | refine bst ?_ GE126.out | refine bst ?_ GE127.out | refine bst ?_ GE140.out) | exact HB.out)) hb)
   clear BK126
   clear BK127
   clear BK140
   clear HB
   have BK126 := n0_
   have BK127 := n1_
   have BK140 := n2_
   have HB := n3_
   clear n0_ n1_ n2_ n3_
   refine hK.out _ _ ⟨(kce BK127.out 0).trans rfl, (kce BK127.out 1).trans rfl, (kce BK127.out 2).trans rfl, (kce BK140.out 0).trans rfl, (kce BK140.out 1).trans rfl, (kce BK140.out 2).trans rfl⟩ (fun hHeld => ?_)
   clear hK K
   refine norm_ (a' := ?_) ?_ ?_
   rotate_left
   ·show Act.put _ (some 22) _ = _
    simp only [Act.put, sit, scz, scs, i64_w, i32_w]
    rfl
   refine one_ (i := 7) (N := some 24) #[true, true, true, true, true, true, true, true, false, false] rfl rfl (one_of HT_.out (by kernel_rfl)) (by decide) (fun K hK => ?_)
   refine goes_ Try.func53 (by kernel_rfl) rfl #[.agg #[.int .i64 t141, .int .i64 t142], .agg #[.int .i64 t128, .int .i64 t132, .string t136]] (by rfl) rfl rfl (by (try simp only [mta, mco, mni]); first | done | rfl | (simp only [lnd, lnt]; rfl)) ?_
   with_reducible refine (spec_OpOk.calls k t141 t142 t128 t132 t136 true _ A20.out).mono ?_
   rintro e w34 ⟨rfl, hb⟩
   refine ⟨_, rfl, ?_⟩
   have n0_ := am (kbb (g := gb126) (o := .cells #[.int .i64 0, .int .i64 0, .string (⟨#[]⟩ : ByteArray)] 60 (0, 0)) (by (with_reducible repeat (first | apply kdn | apply kdr | apply kal)); exact BK126.out) hb)
   have n1_ := am (kbb (g := gb127) (o := .cells #[.string t137, .int .i64 t138, .bool false] 114 (0, 0)) (by (with_reducible repeat (first | apply kdn | apply kdr | apply kal)); exact BK127.out) hb)
   have n2_ := am (kbb (g := gb140) (o := .cells #[.int .i64 t128, .int .i64 t132, .string t136] 60 (0, 0)) (by (with_reducible repeat (first | apply kdn | apply kdr | apply kal)); exact BK140.out) hb)
   have n3_ := am (below_step (by repeat (first | (with_reducible first | exact HB.out | apply bal | apply pdn | apply bd1 | refine bst ?_ GE126.out | refine bst ?_ GE127.out | refine bst ?_ GE140.out) | exact HB.out)) hb)
   clear BK126
   clear BK127
   clear BK140
   clear HB
   have BK126 := n0_
   have BK127 := n1_
   have BK140 := n2_
   have HB := n3_
   clear n0_ n1_ n2_ n3_
   refine hK.out _ _ ⟨(kce BK127.out 0).trans rfl, (kce BK127.out 1).trans rfl, (kce BK127.out 2).trans rfl, (kce BK140.out 0).trans rfl, (kce BK140.out 1).trans rfl, (kce BK140.out 2).trans rfl⟩ (fun hHeld => ?_)
   clear hK K
   refine norm_ (a' := ?_) ?_ ?_
   rotate_left
   ·show Act.put _ (some 24) _ = _
    simp only [Act.put, sit, scz, scs, i64_w, i32_w]
    rfl
   refine pure_ (i := 8) (N := some 25) (v := ?_) (a' := ?_) #[true, true, true, true, true, true, true, true, true, false] rfl rfl (any_of HT_.out (by kernel_rfl)) (fun _ _ _ h => h) (Or.inl ⟨by rfl, ?_⟩) ?_ ?_
   rotate_left
   ·intro w'
    go_simp
    with_reducible rfl
   rotate_left
   ·simp only [Act.put, sit, scz, scs, i64_w, i32_w]
    rfl
   refine pure_ (i := 9) (N := some 26) (v := ?_) (a' := ?_) #[true, true, true, true, true, true, true, true, true, true] rfl rfl (any_of HT_.out (by kernel_rfl)) (fun _ _ _ h => h) (Or.inl ⟨by rfl, ?_⟩) ?_ ?_
   rotate_left
   ·intro w'
    go_simp
    with_reducible rfl
   rotate_left
   ·simp only [Act.put, sit, scz, scs, i64_w, i32_w]
    rfl
   refine done_ (done_of HT_.out (by kernel_rfl)) ?_
   try go_wp2
   have n0_ := am (kdr BK126.out)
   have n1_ := am (kdr BK127.out)
   have n2_ := am (kdr BK140.out)
   have n3_ := am (bd1 HB.out)
   clear BK126
   clear BK127
   clear BK140
   clear HB
   have BK126 := n0_
   have BK127 := n1_
   have BK140 := n2_
   have HB := n3_
   clear n0_ n1_ n2_ n3_
   refine start_ (n := 8) (S := fun w' => w'.cell? ⟨gb140, 0, none⟩ = some (.int .i64 t128) ∧ w'.cell? ⟨gb140, 1, none⟩ = some (.int .i64 t132) ∧ w'.cell? ⟨gb140, 2, none⟩ = some (.string t136) ∧ w'.cell? ⟨gb127, 0, none⟩ = some (.string t137) ∧ w'.cell? ⟨gb127, 1, none⟩ = some (.int .i64 t138) ∧ w'.cell? ⟨gb127, 2, none⟩ = some (.bool false)) (ds := []) #[false, false, false, false, false, false, false, false] (by kernel_rfl) rfl rfl ⟨(kce BK140.out 0).trans rfl, (kce BK140.out 1).trans rfl, (kce BK140.out 2).trans rfl, (kce BK127.out 0).trans rfl, (kce BK127.out 1).trans rfl, (kce BK127.out 2).trans rfl⟩ (fun hHeld => ?_); refine with_tabW spec_GetOp.tab5 spec_GetOp.bits5 (fun HT_ HW_ => ?_)
   generalize w34.drew = w35 at BK126 BK127 BK140 HB hHeld ⊢
   refine pure_ (i := 1) (N := some 29) (v := ?_) (a' := ?_) #[false, true, false, false, false, false, false, false] rfl rfl (any_of HT_.out (by kernel_rfl)) (fun _ _ _ h => h) (Or.inl ⟨by rfl, ?_⟩) ?_ ?_
   rotate_left
   ·intro w'
    go_simp
    with_reducible rfl
   rotate_left
   ·simp only [Act.put, sit, scz, scs, i64_w, i32_w]
    rfl
   refine pure_ (i := 2) (N := some 30) (v := ?_) (a' := ?_) #[false, true, true, false, false, false, false, false] rfl rfl (any_of HT_.out (by kernel_rfl)) (fun _ _ _ h => h) (Or.inl ⟨by rfl, ?_⟩) ?_ ?_
   rotate_left
   ·intro w'
    go_simp
    with_reducible rfl
   rotate_left
   ·simp only [Act.put, sit, scz, scs, i64_w, i32_w]
    rfl
   refine pure_ (i := 3) (N := some 31) (v := ?_) (a' := ?_) #[false, true, true, true, false, false, false, false] rfl rfl (any_of HT_.out (by kernel_rfl)) (fun _ _ _ h => h) (Or.inl ⟨by rfl, ?_⟩) ?_ ?_
   rotate_left
   ·intro w'
    go_simp
    with_reducible rfl
   rotate_left
   ·simp only [Act.put, sit, scz, scs, i64_w, i32_w]
    rfl
   refine take_ (i := 0) (N := some 28) (v := ?_) (a' := ?_) #[true, true, true, true, false, false, false, false] rfl rfl (take_ofW HT_.out HW_.out (by kernel_rfl)) (fun _ _ _ h => h) (Or.inl ⟨by rfl, ?_⟩) hHeld ?_ ?_
   rotate_left
   ·rintro w' ⟨s0, s1, s2, s3, s4, s5⟩
    go_simp
    with_reducible rfl
   rotate_left
   ·simp only [Act.put, sit, scz, scs, i64_w, i32_w]
    rfl
   refine take_ (i := 4) (N := some 32) (v := ?_) (a' := ?_) #[true, true, true, true, true, false, false, false] rfl rfl (take_ofW HT_.out HW_.out (by kernel_rfl)) (fun _ _ _ h => h) (Or.inl ⟨by rfl, ?_⟩) hHeld ?_ ?_
   rotate_left
   ·rintro w' ⟨s0, s1, s2, s3, s4, s5⟩
    go_simp
    with_reducible rfl
   rotate_left
   ·simp only [Act.put, sit, scz, scs, i64_w, i32_w]
    rfl
   refine one_ (i := 5) (N := none) #[true, true, true, true, true, true, false, false] rfl rfl (one_of HT_.out (by kernel_rfl)) (by decide) (fun K hK => ?_)
   have hs36 : w35.cell? ⟨gb126, 0, none⟩ = some (.int .i64 0) := (kce BK126.out 0).trans rfl
   have hfs36 := kfr BK126.out 0
   have hns36_1 := NB127_126.out
   have hns36_2 := NB140_126.out
   have hms36_1 := NB126_127.out
   have hms36_2 := NB126_140.out
   have hs37 : w35.cell? ⟨gb126, 1, none⟩ = some (.int .i64 0) := (kce BK126.out 1).trans rfl
   have hfs37 := kfr BK126.out 1
   have hns37_1 := NB127_126.out
   have hns37_2 := NB140_126.out
   have hms37_1 := NB126_127.out
   have hms37_2 := NB126_140.out
   have hs38 : w35.cell? ⟨gb126, 2, none⟩ = some (.string (⟨#[]⟩ : ByteArray)) := (kce BK126.out 2).trans rfl
   have hfs38 := kfr BK126.out 2
   have hns38_1 := NB127_126.out
   have hns38_2 := NB140_126.out
   have hms38_1 := NB126_127.out
   have hms38_2 := NB126_140.out
   refine skip_ (w1 := ?_) (by rfl) rfl ?_ ?_
   rotate_left
   ·go_simp
    rfl
   refine hK.out _ _ ⟨((cell_far (p := ⟨gb126, _, none⟩) NB140_126.out _).trans (((cell_far (p := ⟨gb126, _, none⟩) NB140_126.out _).trans (((cell_far (p := ⟨gb126, _, none⟩) NB140_126.out _).trans (hHeld.1)))))), ((cell_far (p := ⟨gb126, _, none⟩) NB140_126.out _).trans (((cell_far (p := ⟨gb126, _, none⟩) NB140_126.out _).trans (((cell_far (p := ⟨gb126, _, none⟩) NB140_126.out _).trans (hHeld.2.1)))))), ((cell_far (p := ⟨gb126, _, none⟩) NB140_126.out _).trans (((cell_far (p := ⟨gb126, _, none⟩) NB140_126.out _).trans (((cell_far (p := ⟨gb126, _, none⟩) NB140_126.out _).trans (hHeld.2.2.1)))))), ((cell_far (p := ⟨gb126, _, none⟩) NB127_126.out _).trans (((cell_far (p := ⟨gb126, _, none⟩) NB127_126.out _).trans (((cell_far (p := ⟨gb126, _, none⟩) NB127_126.out _).trans (hHeld.2.2.2.1)))))), ((cell_far (p := ⟨gb126, _, none⟩) NB127_126.out _).trans (((cell_far (p := ⟨gb126, _, none⟩) NB127_126.out _).trans (((cell_far (p := ⟨gb126, _, none⟩) NB127_126.out _).trans (hHeld.2.2.2.2.1)))))), ((cell_far (p := ⟨gb126, _, none⟩) NB127_126.out _).trans (((cell_far (p := ⟨gb126, _, none⟩) NB127_126.out _).trans (((cell_far (p := ⟨gb126, _, none⟩) NB127_126.out _).trans (hHeld.2.2.2.2.2))))))⟩ (fun hHeld => ?_)
   clear hK K
   refine pure_ (i := 6) (N := some 3) (v := ?_) (a' := ?_) #[true, true, true, true, true, true, true, false] rfl rfl (any_of HT_.out (by kernel_rfl)) (fun _ _ _ h => h) (Or.inl ⟨by rfl, ?_⟩) ?_ ?_
   rotate_left
   ·intro w'
    go_simp
    with_reducible rfl
   rotate_left
   ·simp only [Act.put, sit, scz, scs, i64_w, i32_w]
    rfl
   refine pure_ (i := 7) (N := some 4) (v := ?_) (a' := ?_) #[true, true, true, true, true, true, true, true] rfl rfl (any_of HT_.out (by kernel_rfl)) (fun _ _ _ h => h) (Or.inl ⟨by rfl, ?_⟩) ?_ ?_
   rotate_left
   ·intro w'
    go_simp
    with_reducible rfl
   rotate_left
   ·simp only [Act.put, sit, scz, scs, i64_w, i32_w]
    rfl
   refine done_ (done_of HT_.out (by kernel_rfl)) ?_
   try go_wp2
   refine bodyPost_ret (results_ctt rfl _ _ gb126 60 #[.int .i64 t128, .int .i64 t132, .string t136] (0, 0) _ rfl (by (with_reducible repeat (first | apply kdn | apply kdr | apply kal)); refine blk_put (cs := #[.int .i64 t128, .int .i64 t132, .string (⟨#[]⟩ : ByteArray)]) ?_ 2 _ rfl; (with_reducible repeat (first | apply kdn | apply kdr | apply kal)); refine blk_put (cs := #[.int .i64 t128, .int .i64 0, .string (⟨#[]⟩ : ByteArray)]) ?_ 1 _ rfl; (with_reducible repeat (first | apply kdn | apply kdr | apply kal)); refine blk_put (cs := #[.int .i64 0, .int .i64 0, .string (⟨#[]⟩ : ByteArray)]) ?_ 0 _ rfl; (with_reducible repeat (first | apply kdn | apply kdr | apply kal)); exact BK126.out) Try.underlying60 rfl (by kernel_rfl)) rfl ?_
   exact ⟨by first | rfl | (simp [errW_none, errW_some] <;> rfl) | (simp [*, errW_none, errW_some] <;> rfl), by repeat (first | (with_reducible first | exact HB.out | apply bal | apply pdn | apply bd1 | refine bst ?_ GE126.out | refine bst ?_ GE127.out | refine bst ?_ GE140.out) | exact HB.out)⟩
  ·replace c21 := Bool.eq_false_iff.mpr c21
   subst c21
   have H1 : (some (0, 0, (⟨#[]⟩ : ByteArray), 0, false)) = some (r1, r2, r3, r4, r5) := by rw [if_neg (show ¬ (false = true) by decide)] at H; exact H
   clear H
   have H := H1
   clear H1
   simp only [Option.some.injEq, Prod.mk.injEq] at H
   obtain ⟨rfl, rfl, rfl, rfl, rfl⟩ := H
   go_enter Try.func40, Try.ntmps40
   try go_wp2_with (first | ((with_reducible refine gate_dst (N := 2) rfl ?_); refine box_event ?hg (N := 2) ?hd (cs := #[.int .i64 0, .int .i64 0, .string (⟨#[]⟩ : ByteArray)]) (t := 60) ?hr ?_; (case hd => rfl); (case hg => rfl); (case hr => first | (go_simp; done) | (go_simp; rfl)); intro gb126 hg w39 hbox hb; have n0_ := am (below_step (by repeat (first | (with_reducible first | exact HB.out | apply bal | apply pdn | apply bd1) | exact HB.out)) hb); have n1_ := am (hbox); have n2_ := am ((by rw [hg]; exact (below_size (by repeat (first | (with_reducible first | exact HB.out | apply bal | apply pdn | apply bd1) | exact HB.out))) : w.heap.size ≤ gb126)); have n3_ := am ((by rw [hg]; exact (below_size (by repeat (first | (with_reducible first | exact HB.out | apply bal | apply pdn | apply bd1) | exact HB.out))) : w.heap.size ≤ gb126)); clear HB; have HB := n0_; have BK126 := n1_; have GW126 := n2_; have GE126 := n3_; clear n0_ n1_ n2_ n3_; clear hb hbox hg) | ((with_reducible refine gate_dst (N := 9) rfl ?_); refine box_event ?hg (N := 9) ?hd (cs := #[.string a0, .int .i64 0, .bool false]) (t := 114) ?hr ?_; (case hd => rfl); (case hg => rfl); (case hr => first | (go_simp; done) | (go_simp; rfl)); intro gb127 hg w40 hbox hb; have n0_ := am (kbb (g := gb126) (o := .cells #[.int .i64 0, .int .i64 0, .string (⟨#[]⟩ : ByteArray)] 60 (0, 0)) (by (with_reducible repeat (first | apply kdn | apply kdr | apply kal)); exact BK126.out) hb); have n1_ := am (below_step (by repeat (first | (with_reducible first | exact HB.out | apply bal | apply pdn | apply bd1 | refine bst ?_ GE126.out) | exact HB.out)) hb); have n2_ := am ((show IsS114 w _ gb127 a0 0 false from ⟨hbox, (by rw [hg]; exact (below_size (by repeat (first | (with_reducible first | exact HB.out | apply bal | apply pdn | apply bd1 | refine bst ?_ GE126.out) | exact HB.out))))⟩)); have n3_ := am ((by rw [hg]; exact (below_size (by repeat (first | (with_reducible first | exact HB.out | apply bal | apply pdn | apply bd1 | refine bst ?_ GE126.out) | exact HB.out))) : w.heap.size ≤ gb127)); have n4_ := am ((by rw [hg]; exact (below_size (by repeat (first | (with_reducible first | exact HB.out | apply bal | apply pdn | apply bd1 | refine bst ?_ GE126.out) | exact HB.out))) : w.heap.size ≤ gb127)); have n5_ := am ((by rw [hg]; exact Nat.ne_of_lt (blk_lt (g := gb126) (o := .cells #[.int .i64 0, .int .i64 0, .string (⟨#[]⟩ : ByteArray)] 60 (0, 0)) (by (with_reducible repeat (first | apply kdn | apply kdr | apply kal)); exact BK126.out)) : gb126 ≠ gb127)); have n6_ := am ((by rw [hg]; exact Nat.ne_of_gt (blk_lt (g := gb126) (o := .cells #[.int .i64 0, .int .i64 0, .string (⟨#[]⟩ : ByteArray)] 60 (0, 0)) (by (with_reducible repeat (first | apply kdn | apply kdr | apply kal)); exact BK126.out)) : gb127 ≠ gb126)); clear BK126; clear HB; have BK126 := n0_; have HB := n1_; have HI127 := n2_; have GW127 := n3_; have GE127 := n4_; have NB126_127 := n5_; have NB127_126 := n6_; clear n0_ n1_ n2_ n3_ n4_ n5_ n6_; clear hb hbox hg) | ((with_reducible refine gate_callee (f := 90) rfl ?_); refine goesL_ (some 11) rfl rfl Try.func90 (by kernel_rfl) rfl #[.pointer (some ⟨gb127, 0, none⟩)] rfl (by (try simp only [mta, mco, mni]); first | done | rfl | (simp only [lnd, lnt]; rfl)) ?_; (with_reducible refine (spec_l16Src_num.calls k gb127 a0 0 false t128 t129 t130 t131 w _ ?side1 ?side2 A2.out).mono ?_); (case side1 => repeat (first | (with_reducible first | exact HI127.out | apply IsS114.alloc | apply IsS114.drewN | apply IsS114.drew | apply IsS114.set_0 | apply IsS114.set_1 | apply IsS114.set_2 | refine IsS114.far ?_ NB127_126.out _) | exact HI127.out)); (case side2 => repeat (first | (with_reducible first | exact HB.out | apply bal | apply pdn | apply bd1 | refine bst ?_ (IsS114.ge HI127.out) | refine bst ?_ GE126.out) | exact HB.out)); rintro e w41 ⟨rfl, hi, hb, hk⟩; refine ⟨_, rfl, ?_⟩; have n0_ := am (KeepBut.blk hk (g' := gb126) (o := .cells #[.int .i64 0, .int .i64 0, .string (⟨#[]⟩ : ByteArray)] 60 (0, 0)) (by (with_reducible repeat (first | apply kdn | apply kdr | apply kal)); exact BK126.out) NB126_127.out (by simp)); have n1_ := am (hb); have n2_ := am (hi); clear BK126; clear HB; clear HI127; have BK126 := n0_; have HB := n1_; have HI127 := n2_; clear n0_ n1_ n2_; (try clear hb); (try clear hb2); (try clear hk); (try clear hi)) | ((with_reducible refine gate_callee (f := 90) rfl ?_); refine goesL_ (some 13) rfl rfl Try.func90 (by kernel_rfl) rfl #[.pointer (some ⟨gb127, 0, none⟩)] rfl (by (try simp only [mta, mco, mni]); first | done | rfl | (simp only [lnd, lnt]; rfl)) ?_; (with_reducible refine (spec_l16Src_num.calls k gb127 t129 t130 t131 t132 t133 t134 t135 w _ ?side1 ?side2 A3.out).mono ?_); (case side1 => repeat (first | (with_reducible first | exact HI127.out | apply IsS114.alloc | apply IsS114.drewN | apply IsS114.drew | apply IsS114.set_0 | apply IsS114.set_1 | apply IsS114.set_2 | refine IsS114.far ?_ NB127_126.out _) | exact HI127.out)); (case side2 => repeat (first | (with_reducible first | exact HB.out | apply bal | apply pdn | apply bd1 | refine bst ?_ (IsS114.ge HI127.out) | refine bst ?_ GE126.out) | exact HB.out)); rintro e w42 ⟨rfl, hi, hb, hk⟩; refine ⟨_, rfl, ?_⟩; have n0_ := am (KeepBut.blk hk (g' := gb126) (o := .cells #[.int .i64 0, .int .i64 0, .string (⟨#[]⟩ : ByteArray)] 60 (0, 0)) (by (with_reducible repeat (first | apply kdn | apply kdr | apply kal)); exact BK126.out) NB126_127.out (by simp)); have n1_ := am (hb); have n2_ := am (hi); clear BK126; clear HB; clear HI127; have BK126 := n0_; have HB := n1_; have HI127 := n2_; clear n0_ n1_ n2_; (try clear hb); (try clear hb2); (try clear hk); (try clear hi)) | ((with_reducible refine gate_callee (f := 91) rfl ?_); refine goesL_ (some 15) rfl rfl Try.func91 (by kernel_rfl) rfl #[.pointer (some ⟨gb127, 0, none⟩)] rfl (by (try simp only [mta, mco, mni]); first | done | rfl | (simp only [lnd, lnt]; rfl)) ?_; (with_reducible refine (spec_l16Src_str.calls k gb127 t133 t134 t135 t136 t137 t138 false w _ ?side1 ?side2 A4.out).mono ?_); (case side1 => repeat (first | (with_reducible first | exact HI127.out | apply IsS114.alloc | apply IsS114.drewN | apply IsS114.drew | apply IsS114.set_0 | apply IsS114.set_1 | apply IsS114.set_2 | refine IsS114.far ?_ NB127_126.out _) | exact HI127.out)); (case side2 => repeat (first | (with_reducible first | exact HB.out | apply bal | apply pdn | apply bd1 | refine bst ?_ (IsS114.ge HI127.out) | refine bst ?_ GE126.out) | exact HB.out)); rintro e w43 ⟨rfl, hi, hb, hk⟩; refine ⟨_, rfl, ?_⟩; have n0_ := am (KeepBut.blk hk (g' := gb126) (o := .cells #[.int .i64 0, .int .i64 0, .string (⟨#[]⟩ : ByteArray)] 60 (0, 0)) (by (with_reducible repeat (first | apply kdn | apply kdr | apply kal)); exact BK126.out) NB126_127.out (by simp)); have n1_ := am (hb); have n2_ := am (hi); clear BK126; clear HB; clear HI127; have BK126 := n0_; have HB := n1_; have HI127 := n2_; clear n0_ n1_ n2_; (try clear hb); (try clear hb2); (try clear hk); (try clear hi)) | ((with_reducible refine gate_dst (N := 6) rfl ?_); refine box_event ?hg (N := 6) ?hd (cs := #[.int .i64 0, .int .i64 0, .string (⟨#[]⟩ : ByteArray)]) (t := 60) ?hr ?_; (case hd => rfl); (case hg => rfl); (case hr => first | (go_simp; done) | (go_simp; rfl)); intro gb140 hg w44 hbox hb; have n0_ := am (kbb (g := gb126) (o := .cells #[.int .i64 0, .int .i64 0, .string (⟨#[]⟩ : ByteArray)] 60 (0, 0)) (by (with_reducible repeat (first | apply kdn | apply kdr | apply kal)); exact BK126.out) hb); have n1_ := am (IsS114.below (by repeat (first | (with_reducible first | exact HI127.out | apply IsS114.alloc | apply IsS114.drewN | apply IsS114.drew | apply IsS114.set_0 | apply IsS114.set_1 | apply IsS114.set_2 | refine IsS114.far ?_ NB127_126.out _) | exact HI127.out)) hb); have n2_ := am (below_step (by repeat (first | (with_reducible first | exact HB.out | apply bal | apply pdn | apply bd1 | refine bst ?_ (IsS114.ge HI127.out) | refine bst ?_ GE126.out) | exact HB.out)) hb); have n3_ := am (hbox); have n4_ := am ((by rw [hg]; exact (below_size (by repeat (first | (with_reducible first | exact HB.out | apply bal | apply pdn | apply bd1 | refine bst ?_ (IsS114.ge HI127.out) | refine bst ?_ GE126.out) | exact HB.out))) : w.heap.size ≤ gb140)); have n5_ := am ((by rw [hg]; exact (below_size (by repeat (first | (with_reducible first | exact HB.out | apply bal | apply pdn | apply bd1 | refine bst ?_ (IsS114.ge HI127.out) | refine bst ?_ GE126.out) | exact HB.out))) : w.heap.size ≤ gb140)); have n6_ := am ((by rw [hg]; exact Nat.ne_of_lt (blk_lt (g := gb126) (o := .cells #[.int .i64 0, .int .i64 0, .string (⟨#[]⟩ : ByteArray)] 60 (0, 0)) (by (with_reducible repeat (first | apply kdn | apply kdr | apply kal)); exact BK126.out)) : gb126 ≠ gb140)); have n7_ := am ((by rw [hg]; exact Nat.ne_of_gt (blk_lt (g := gb126) (o := .cells #[.int .i64 0, .int .i64 0, .string (⟨#[]⟩ : ByteArray)] 60 (0, 0)) (by (with_reducible repeat (first | apply kdn | apply kdr | apply kal)); exact BK126.out)) : gb140 ≠ gb126)); have n8_ := am ((by rw [hg]; exact Nat.ne_of_lt (IsS114.lt (show IsS114 w _ gb127 t137 t138 false from by repeat (first | (with_reducible first | exact HI127.out | apply IsS114.alloc | apply IsS114.drewN | apply IsS114.drew | apply IsS114.set_0 | apply IsS114.set_1 | apply IsS114.set_2 | refine IsS114.far ?_ NB127_126.out _) | exact HI127.out))) : gb127 ≠ gb140)); have n9_ := am ((by rw [hg]; exact Nat.ne_of_gt (IsS114.lt (show IsS114 w _ gb127 t137 t138 false from by repeat (first | (with_reducible first | exact HI127.out | apply IsS114.alloc | apply IsS114.drewN | apply IsS114.drew | apply IsS114.set_0 | apply IsS114.set_1 | apply IsS114.set_2 | refine IsS114.far ?_ NB127_126.out _) | exact HI127.out))) : gb140 ≠ gb127)); clear BK126; clear HI127; clear HB; have BK126 := n0_; have HI127 := n1_; have HB := n2_; have BK140 := n3_; have GW140 := n4_; have GE140 := n5_; have NB126_140 := n6_; have NB140_126 := n7_; have NB127_140 := n8_; have NB140_127 := n9_; clear n0_ n1_ n2_ n3_ n4_ n5_ n6_ n7_ n8_ n9_; clear hb hbox hg; have hnb45 := NB140_126.out; have hnc45 := NB126_140.out; have hnb46 := NB140_127.out; have hnc46 := NB127_140.out; have hcz47_0 : w44.cell? ⟨gb140, 0, none⟩ = some (.int .i64 0) := (kce BK140.out 0).trans rfl; have hcz47_1 : w44.cell? ⟨gb140, 1, none⟩ = some (.int .i64 0) := (kce BK140.out 1).trans rfl; have hcz47_2 : w44.cell? ⟨gb140, 2, none⟩ = some (.string (⟨#[]⟩ : ByteArray)) := (kce BK140.out 2).trans rfl; have hfz47_0 := kfr BK140.out 0; have hfz47_1 := kfr BK140.out 1; have hfz47_2 := kfr BK140.out 2; have BK127 := am (HI127.out.1); clear HI127))
   have n0_ : Aside0 ((((w44.setCell ⟨gb140, 0, none⟩ (.int .i64 t128)).setCell ⟨gb140, 1, none⟩ (.int .i64 t132)).setCell ⟨gb140, 2, none⟩ (.string t136)).heap[gb126]? = some (.cells #[.int .i64 0, .int .i64 0, .string (⟨#[]⟩ : ByteArray)] 60 (0, 0))) := ⟨by (with_reducible repeat (first | apply kdn | apply kdr | apply kal)); refine blk_far ?_ NB126_140.out _; (with_reducible repeat (first | apply kdn | apply kdr | apply kal)); refine blk_far ?_ NB126_140.out _; (with_reducible repeat (first | apply kdn | apply kdr | apply kal)); refine blk_far ?_ NB126_140.out _; (with_reducible repeat (first | apply kdn | apply kdr | apply kal)); exact BK126.out⟩
   have n1_ : Aside0 ((((w44.setCell ⟨gb140, 0, none⟩ (.int .i64 t128)).setCell ⟨gb140, 1, none⟩ (.int .i64 t132)).setCell ⟨gb140, 2, none⟩ (.string t136)).heap[gb127]? = some (.cells #[.string t137, .int .i64 t138, .bool false] 114 (0, 0))) := ⟨by (with_reducible repeat (first | apply kdn | apply kdr | apply kal)); refine blk_far ?_ NB127_140.out _; (with_reducible repeat (first | apply kdn | apply kdr | apply kal)); refine blk_far ?_ NB127_140.out _; (with_reducible repeat (first | apply kdn | apply kdr | apply kal)); refine blk_far ?_ NB127_140.out _; (with_reducible repeat (first | apply kdn | apply kdr | apply kal)); exact BK127.out⟩
   have n2_ : Aside0 ((((w44.setCell ⟨gb140, 0, none⟩ (.int .i64 t128)).setCell ⟨gb140, 1, none⟩ (.int .i64 t132)).setCell ⟨gb140, 2, none⟩ (.string t136)).heap[gb140]? = some (.cells #[.int .i64 t128, .int .i64 t132, .string t136] 60 (0, 0))) := ⟨by (with_reducible repeat (first | apply kdn | apply kdr | apply kal)); refine blk_put (cs := #[.int .i64 t128, .int .i64 t132, .string (⟨#[]⟩ : ByteArray)]) ?_ 2 _ rfl; (with_reducible repeat (first | apply kdn | apply kdr | apply kal)); refine blk_put (cs := #[.int .i64 t128, .int .i64 0, .string (⟨#[]⟩ : ByteArray)]) ?_ 1 _ rfl; (with_reducible repeat (first | apply kdn | apply kdr | apply kal)); refine blk_put (cs := #[.int .i64 0, .int .i64 0, .string (⟨#[]⟩ : ByteArray)]) ?_ 0 _ rfl; (with_reducible repeat (first | apply kdn | apply kdr | apply kal)); exact BK140.out⟩
   have n3_ : Aside0 (Below w.heap.size w (((w44.setCell ⟨gb140, 0, none⟩ (.int .i64 t128)).setCell ⟨gb140, 1, none⟩ (.int .i64 t132)).setCell ⟨gb140, 2, none⟩ (.string t136))) := ⟨by repeat (first | (with_reducible first | exact HB.out | apply bal | apply pdn | apply bd1 | refine bst ?_ GE126.out | refine bst ?_ GE127.out | refine bst ?_ GE140.out) | exact HB.out)⟩
   (try clear BK126)
   (try clear BK127)
   (try clear BK140)
   (try clear HB)
   generalize (((w44.setCell ⟨gb140, 0, none⟩ (.int .i64 t128)).setCell ⟨gb140, 1, none⟩ (.int .i64 t132)).setCell ⟨gb140, 2, none⟩ (.string t136)) = w48 at n0_ n1_ n2_ n3_ ⊢
   have BK126 := n0_
   have BK127 := n1_
   have BK140 := n2_
   have HB := n3_
   clear n0_ n1_ n2_ n3_
   have n0_ := am (kdr BK126.out)
   have n1_ := am (kdr BK127.out)
   have n2_ := am (kdr BK140.out)
   have n3_ := am (bd1 HB.out)
   clear BK126
   clear BK127
   clear BK140
   clear HB
   have BK126 := n0_
   have BK127 := n1_
   have BK140 := n2_
   have HB := n3_
   clear n0_ n1_ n2_ n3_
   refine start_ (n := 10) (S := fun w' => w'.cell? ⟨gb127, 0, none⟩ = some (.string t137) ∧ w'.cell? ⟨gb127, 1, none⟩ = some (.int .i64 t138) ∧ w'.cell? ⟨gb127, 2, none⟩ = some (.bool false) ∧ w'.cell? ⟨gb140, 0, none⟩ = some (.int .i64 t128) ∧ w'.cell? ⟨gb140, 1, none⟩ = some (.int .i64 t132) ∧ w'.cell? ⟨gb140, 2, none⟩ = some (.string t136)) (ds := []) #[false, false, false, false, false, false, false, false, false, false] (by kernel_rfl) rfl rfl ⟨(kce BK127.out 0).trans rfl, (kce BK127.out 1).trans rfl, (kce BK127.out 2).trans rfl, (kce BK140.out 0).trans rfl, (kce BK140.out 1).trans rfl, (kce BK140.out 2).trans rfl⟩ (fun hHeld => ?_); refine with_tabW spec_GetOp.tab3 spec_GetOp.bits3 (fun HT_ HW_ => ?_)
   generalize w48.drew = w49 at BK126 BK127 BK140 HB hHeld ⊢
   refine pure_ (i := 0) (N := some 17) (v := ?_) (a' := ?_) #[true, false, false, false, false, false, false, false, false, false] rfl rfl (any_of HT_.out (by kernel_rfl)) (fun _ _ _ h => h) (Or.inl ⟨by rfl, ?_⟩) ?_ ?_
   rotate_left
   ·intro w'
    go_simp
    with_reducible rfl
   rotate_left
   ·simp only [Act.put, sit, scz, scs, i64_w, i32_w]
    rfl
   refine pure_ (i := 1) (N := some 18) (v := ?_) (a' := ?_) #[true, true, false, false, false, false, false, false, false, false] rfl rfl (any_of HT_.out (by kernel_rfl)) (fun _ _ _ h => h) (Or.inl ⟨by rfl, ?_⟩) ?_ ?_
   rotate_left
   ·intro w'
    go_simp
    with_reducible rfl
   rotate_left
   ·simp only [Act.put, sit, scz, scs, i64_w, i32_w]
    rfl
   refine pure_ (i := 2) (N := some 19) (v := ?_) (a' := ?_) #[true, true, true, false, false, false, false, false, false, false] rfl rfl (any_of HT_.out (by kernel_rfl)) (fun _ _ _ h => h) (Or.inl ⟨by rfl, ?_⟩) ?_ ?_
   rotate_left
   ·intro w'
    go_simp
    with_reducible rfl
   rotate_left
   ·simp only [Act.put, sit, scz, scs, i64_w, i32_w]
    rfl
   refine take_ (i := 3) (N := some 20) (v := ?_) (a' := ?_) #[true, true, true, true, false, false, false, false, false, false] rfl rfl (take_ofW HT_.out HW_.out (by kernel_rfl)) (fun _ _ _ h => h) (Or.inl ⟨by rfl, ?_⟩) hHeld ?_ ?_
   rotate_left
   ·rintro w' ⟨s0, s1, s2, s3, s4, s5⟩
    go_simp
    with_reducible rfl
   rotate_left
   ·simp only [Act.put, sit, scz, scs, i64_w, i32_w]
    rfl
   refine pure_ (i := 4) (N := some 21) (v := ?_) (a' := ?_) #[true, true, true, true, true, false, false, false, false, false] rfl rfl (any_of HT_.out (by kernel_rfl)) (fun _ _ _ h => h) (Or.inl ⟨by rfl, ?_⟩) ?_ ?_
   rotate_left
   ·intro w'
    go_simp
    with_reducible rfl
   rotate_left
   ·simp only [Act.put, sit, scz, scs, i64_w, i32_w]
    rfl
   refine take_ (i := 6) (N := some 23) (v := ?_) (a' := ?_) #[true, true, true, true, true, false, true, false, false, false] rfl rfl (take_ofW HT_.out HW_.out (by kernel_rfl)) (fun _ _ _ h => h) (Or.inl ⟨by rfl, ?_⟩) hHeld ?_ ?_
   rotate_left
   ·rintro w' ⟨s0, s1, s2, s3, s4, s5⟩
    go_simp
    with_reducible rfl
   rotate_left
   ·simp only [Act.put, sit, scz, scs, i64_w, i32_w]
    rfl
   refine one_ (i := 5) (N := some 22) #[true, true, true, true, true, true, true, false, false, false] rfl rfl (one_of HT_.out (by kernel_rfl)) (by decide) (fun K hK => ?_)
   refine goes_ Try.func83 (by kernel_rfl) rfl #[] (by rfl) rfl rfl (by (try simp only [mta, mco, mni]); first | done | rfl | (simp only [lnd, lnt]; rfl)) ?_
   with_reducible refine (spec_l16Plain.calls  t141 t142 _ A19.out).mono ?_
   rintro e w50 ⟨rfl, hb⟩
   refine ⟨_, rfl, ?_⟩
   have n0_ := am (kbb (g := gb126) (o := .cells #[.int .i64 0, .int .i64 0, .string (⟨#[]⟩ : ByteArray)] 60 (0, 0)) (by (with_reducible repeat (first | apply kdn | apply kdr | apply kal)); exact BK126.out) hb)
   have n1_ := am (kbb (g := gb127) (o := .cells #[.string t137, .int .i64 t138, .bool false] 114 (0, 0)) (by (with_reducible repeat (first | apply kdn | apply kdr | apply kal)); exact BK127.out) hb)
   have n2_ := am (kbb (g := gb140) (o := .cells #[.int .i64 t128, .int .i64 t132, .string t136] 60 (0, 0)) (by (with_reducible repeat (first | apply kdn | apply kdr | apply kal)); exact BK140.out) hb)
   have n3_ := am (below_step (by repeat (first | (with_reducible first | exact HB.out | apply bal | apply pdn | apply bd1 | refine bst ?_ GE126.out | refine bst ?_ GE127.out | refine bst ?_ GE140.out) | exact HB.out)) hb)
   clear BK126
   clear BK127
   clear BK140
   clear HB
   have BK126 := n0_
   have BK127 := n1_
   have BK140 := n2_
   have HB := n3_
   clear n0_ n1_ n2_ n3_
   refine hK.out _ _ ⟨(kce BK127.out 0).trans rfl, (kce BK127.out 1).trans rfl, (kce BK127.out 2).trans rfl, (kce BK140.out 0).trans rfl, (kce BK140.out 1).trans rfl, (kce BK140.out 2).trans rfl⟩ (fun hHeld => ?_)
   clear hK K
   refine norm_ (a' := ?_) ?_ ?_
   rotate_left
   ·show Act.put _ (some 22) _ = _
    simp only [Act.put, sit, scz, scs, i64_w, i32_w]
    rfl
   refine one_ (i := 7) (N := some 24) #[true, true, true, true, true, true, true, true, false, false] rfl rfl (one_of HT_.out (by kernel_rfl)) (by decide) (fun K hK => ?_)
   refine goes_ Try.func53 (by kernel_rfl) rfl #[.agg #[.int .i64 t141, .int .i64 t142], .agg #[.int .i64 t128, .int .i64 t132, .string t136]] (by rfl) rfl rfl (by (try simp only [mta, mco, mni]); first | done | rfl | (simp only [lnd, lnt]; rfl)) ?_
   with_reducible refine (spec_OpOk.calls k t141 t142 t128 t132 t136 false _ A20.out).mono ?_
   rintro e w51 ⟨rfl, hb⟩
   refine ⟨_, rfl, ?_⟩
   have n0_ := am (kbb (g := gb126) (o := .cells #[.int .i64 0, .int .i64 0, .string (⟨#[]⟩ : ByteArray)] 60 (0, 0)) (by (with_reducible repeat (first | apply kdn | apply kdr | apply kal)); exact BK126.out) hb)
   have n1_ := am (kbb (g := gb127) (o := .cells #[.string t137, .int .i64 t138, .bool false] 114 (0, 0)) (by (with_reducible repeat (first | apply kdn | apply kdr | apply kal)); exact BK127.out) hb)
   have n2_ := am (kbb (g := gb140) (o := .cells #[.int .i64 t128, .int .i64 t132, .string t136] 60 (0, 0)) (by (with_reducible repeat (first | apply kdn | apply kdr | apply kal)); exact BK140.out) hb)
   have n3_ := am (below_step (by repeat (first | (with_reducible first | exact HB.out | apply bal | apply pdn | apply bd1 | refine bst ?_ GE126.out | refine bst ?_ GE127.out | refine bst ?_ GE140.out) | exact HB.out)) hb)
   clear BK126
   clear BK127
   clear BK140
   clear HB
   have BK126 := n0_
   have BK127 := n1_
   have BK140 := n2_
   have HB := n3_
   clear n0_ n1_ n2_ n3_
   refine hK.out _ _ ⟨(kce BK127.out 0).trans rfl, (kce BK127.out 1).trans rfl, (kce BK127.out 2).trans rfl, (kce BK140.out 0).trans rfl, (kce BK140.out 1).trans rfl, (kce BK140.out 2).trans rfl⟩ (fun hHeld => ?_)
   clear hK K
   refine norm_ (a' := ?_) ?_ ?_
   rotate_left
   ·show Act.put _ (some 24) _ = _
    simp only [Act.put, sit, scz, scs, i64_w, i32_w]
    rfl
   refine pure_ (i := 8) (N := some 25) (v := ?_) (a' := ?_) #[true, true, true, true, true, true, true, true, true, false] rfl rfl (any_of HT_.out (by kernel_rfl)) (fun _ _ _ h => h) (Or.inl ⟨by rfl, ?_⟩) ?_ ?_
   rotate_left
   ·intro w'
    go_simp
    with_reducible rfl
   rotate_left
   ·simp only [Act.put, sit, scz, scs, i64_w, i32_w]
    rfl
   refine pure_ (i := 9) (N := some 26) (v := ?_) (a' := ?_) #[true, true, true, true, true, true, true, true, true, true] rfl rfl (any_of HT_.out (by kernel_rfl)) (fun _ _ _ h => h) (Or.inl ⟨by rfl, ?_⟩) ?_ ?_
   rotate_left
   ·intro w'
    go_simp
    with_reducible rfl
   rotate_left
   ·simp only [Act.put, sit, scz, scs, i64_w, i32_w]
    rfl
   refine done_ (done_of HT_.out (by kernel_rfl)) ?_
   have hnb52 := NB126_127.out
   have hnc52 := NB127_126.out
   have hcz53_0 : w51.cell? ⟨gb126, 0, none⟩ = some (.int .i64 0) := (kce BK126.out 0).trans rfl
   have hcz53_1 : w51.cell? ⟨gb126, 1, none⟩ = some (.int .i64 0) := (kce BK126.out 1).trans rfl
   have hcz53_2 : w51.cell? ⟨gb126, 2, none⟩ = some (.string (⟨#[]⟩ : ByteArray)) := (kce BK126.out 2).trans rfl
   have hfz53_0 := kfr BK126.out 0
   have hfz53_1 := kfr BK126.out 1
   have hfz53_2 := kfr BK126.out 2
   try go_wp2
   refine bodyPost_ret (results_ctt rfl _ _ gb126 60 #[.int .i64 0, .int .i64 0, .string (⟨#[]⟩ : ByteArray)] (0, 0) _ rfl (by (with_reducible repeat (first | apply kdn | apply kdr | apply kal)); refine blk_put (cs := #[.int .i64 0, .int .i64 0, .string (⟨#[]⟩ : ByteArray)]) ?_ 2 _ rfl; (with_reducible repeat (first | apply kdn | apply kdr | apply kal)); refine blk_put (cs := #[.int .i64 0, .int .i64 0, .string (⟨#[]⟩ : ByteArray)]) ?_ 1 _ rfl; (with_reducible repeat (first | apply kdn | apply kdr | apply kal)); refine blk_put (cs := #[.int .i64 0, .int .i64 0, .string (⟨#[]⟩ : ByteArray)]) ?_ 0 _ rfl; (with_reducible repeat (first | apply kdn | apply kdr | apply kal)); exact BK126.out) Try.underlying60 rfl (by kernel_rfl)) rfl ?_
   exact ⟨by first | rfl | (simp [errW_none, errW_some] <;> rfl) | (simp [*, errW_none, errW_some] <;> rfl), by repeat (first | (with_reducible first | exact HB.out | apply bal | apply pdn | apply bd1 | refine bst ?_ GE126.out | refine bst ?_ GE127.out | refine bst ?_ GE140.out) | exact HB.out)⟩

/-! ### impl_between: function 60 -/
def impl_between.f (a0 : Int) (a1 : Int) (a2 : Int) : Option (Bool) := if a0 ≥ a1 then (some (decide (a0 ≤ a2))) else (some false)
set_option maxHeartbeats 8000000 in
set_option maxRecDepth 100000 in
theorem impl_between.calls (a0 : Int) (a1 : Int) (a2 : Int) (r : Bool) (w : World) (h : impl_between.f a0 a1 a2 = some r) :
  Calls Try.prog 60 #[.int .i64 a0, .int .i64 a1, .int .i64 a2] w fun e w' => e = .returned (.bool r) ∧ Drawn0 w w' := by
 have H : (if a0 ≥ a1 then (some (decide (a0 ≤ a2))) else (some false)) = some r := h
 clear h
 by_cases c4 : a0 ≥ a1
 ·rw [if_pos c4] at H
  have c4b0 : decide (a1 ≤ a0) = true := decide_eq_true c4
  clear c4
  obtain rfl := Option.some.inj H
  go_enter Try.func60, Try.ntmps60
  go_wp2
  go_ret
  exact ⟨by first | rfl | (simp; done) | (simp [*]; done), by repeat (first | exact Drawn0.refl _ | apply Drawn0.step)⟩
 ·rw [if_neg c4] at H
  have c4b0 : decide (a1 ≤ a0) = false := decide_eq_false c4
  clear c4
  obtain rfl := Option.some.inj H
  go_enter Try.func60, Try.ntmps60
  go_wp2
  go_ret
  exact ⟨by first | rfl | (simp; done) | (simp [*]; done), by repeat (first | exact Drawn0.refl _ | apply Drawn0.step)⟩

/-! ### impl_CodeOk: function 117 -/
def impl_CodeOk.f (a0_0 : Int) (a0_1 : Int) : Option (Bool) := (impl_between.f a0_0 1 4).bind fun t145 => (if t145 = true then ((impl_between.f a0_1 0 3).bind fun t146 => (some t146)) else (some false))
set_option maxHeartbeats 8000000 in
set_option maxRecDepth 100000 in
theorem impl_CodeOk.calls (a0_0 : Int) (a0_1 : Int) (r : Bool) (w : World) (h : impl_CodeOk.f a0_0 a0_1 = some r) :
  Calls Try.prog 117 #[.agg #[.int .i64 a0_0, .int .i64 a0_1]] w fun e w' => e = .returned (.bool r) ∧ Below w.heap.size w w' := by
 have hu84 := Try.underlying84
 have HB := am (Below.refl w.heap.size w)
 have H : ((impl_between.f a0_0 1 4).bind fun t145 => (if t145 = true then ((impl_between.f a0_1 0 3).bind fun t146 => (some t146)) else (some false))) = some r := h
 clear h
 replace H := Option.bind_eq_some_iff.mp H
 obtain ⟨t145, A20, H⟩ := H
 replace H : (if t145 = true then ((impl_between.f a0_1 0 3).bind fun t146 => (some t146)) else (some false)) = some r := H
 have A2 := am A20
 clear A20
 by_cases c3 : t145 = true
 ·subst c3
  have H1 : ((impl_between.f a0_1 0 3).bind fun t146 => (some t146)) = some r := by rw [if_pos rfl] at H; exact H
  clear H
  have H := H1
  clear H1
  replace H := Option.bind_eq_some_iff.mp H
  obtain ⟨t146, A40, H⟩ := H
  replace H : (some t146) = some r := H
  have A4 := am A40
  clear A40
  obtain rfl := Option.some.inj H
  go_enter Try.func117, Try.ntmps117
  go_wp2_with (first | ((with_reducible refine gate_dst (N := 1) rfl ?_); refine box_event ?hg (N := 1) ?hd (cs := #[.int .i64 a0_0, .int .i64 a0_1]) (t := 84) ?hr ?_; (case hd => rfl); (case hg => rfl); (case hr => first | (go_simp; done) | (go_simp; rfl)); intro gb144 hg w5 hbox hb; have n0_ := am (below_step (by repeat (first | (with_reducible first | exact HB.out | apply bal | apply pdn | apply bd1) | exact HB.out)) hb); have n1_ := am (hbox); have n2_ := am ((by rw [hg]; exact (below_size (by repeat (first | (with_reducible first | exact HB.out | apply bal | apply pdn | apply bd1) | exact HB.out))) : w.heap.size ≤ gb144)); have n3_ := am ((by rw [hg]; exact (below_size (by repeat (first | (with_reducible first | exact HB.out | apply bal | apply pdn | apply bd1) | exact HB.out))) : w.heap.size ≤ gb144)); clear HB; have HB := n0_; have BK144 := n1_; have GW144 := n2_; have GE144 := n3_; clear n0_ n1_ n2_ n3_; clear hb hbox hg; have hcz6_0 : w5.cell? ⟨gb144, 0, none⟩ = some (.int .i64 a0_0) := (kce BK144.out 0).trans rfl; have hcz6_1 : w5.cell? ⟨gb144, 1, none⟩ = some (.int .i64 a0_1) := (kce BK144.out 1).trans rfl; have hfz6_0 := kfr BK144.out 0; have hfz6_1 := kfr BK144.out 1) | ((with_reducible refine gate_callee (f := 60) rfl ?_); refine goesL_ (some 5) rfl rfl Try.func60 (by kernel_rfl) rfl #[.int .i64 a0_0, .int .i64 1, .int .i64 4] rfl (by (try simp only [mta, mco, mni]); first | done | rfl | (simp only [lnd, lnt]; rfl)) ?_; (with_reducible refine (impl_between.calls a0_0 1 4 true _ A2.out).mono ?_); rintro e w' ⟨rfl, ⟨nd, rfl⟩⟩; refine ⟨_, rfl, ?_⟩) | (go_at_call 60; (with_reducible refine (impl_between.calls a0_1 0 3 t146 _ A4.out).mono ?_); rintro e w' ⟨rfl, ⟨nd, rfl⟩⟩))
  go_ret
  exact ⟨by first | rfl | (simp [errW_none, errW_some] <;> rfl) | (simp [*, errW_none, errW_some] <;> rfl), by repeat (first | (with_reducible first | exact HB.out | apply bal | apply pdn | apply bd1 | refine bst ?_ GE144.out) | exact HB.out)⟩
 ·replace c3 := Bool.eq_false_iff.mpr c3
  subst c3
  have H1 : (some false) = some r := by rw [if_neg (show ¬ (false = true) by decide)] at H; exact H
  clear H
  have H := H1
  clear H1
  obtain rfl := Option.some.inj H
  go_enter Try.func117, Try.ntmps117
  go_wp2_with (first | ((with_reducible refine gate_dst (N := 1) rfl ?_); refine box_event ?hg (N := 1) ?hd (cs := #[.int .i64 a0_0, .int .i64 a0_1]) (t := 84) ?hr ?_; (case hd => rfl); (case hg => rfl); (case hr => first | (go_simp; done) | (go_simp; rfl)); intro gb144 hg w7 hbox hb; have n0_ := am (below_step (by repeat (first | (with_reducible first | exact HB.out | apply bal | apply pdn | apply bd1) | exact HB.out)) hb); have n1_ := am (hbox); have n2_ := am ((by rw [hg]; exact (below_size (by repeat (first | (with_reducible first | exact HB.out | apply bal | apply pdn | apply bd1) | exact HB.out))) : w.heap.size ≤ gb144)); have n3_ := am ((by rw [hg]; exact (below_size (by repeat (first | (with_reducible first | exact HB.out | apply bal | apply pdn | apply bd1) | exact HB.out))) : w.heap.size ≤ gb144)); clear HB; have HB := n0_; have BK144 := n1_; have GW144 := n2_; have GE144 := n3_; clear n0_ n1_ n2_ n3_; clear hb hbox hg; have hcz8_0 : w7.cell? ⟨gb144, 0, none⟩ = some (.int .i64 a0_0) := (kce BK144.out 0).trans rfl; have hcz8_1 : w7.cell? ⟨gb144, 1, none⟩ = some (.int .i64 a0_1) := (kce BK144.out 1).trans rfl; have hfz8_0 := kfr BK144.out 0; have hfz8_1 := kfr BK144.out 1) | ((with_reducible refine gate_callee (f := 60) rfl ?_); refine goesL_ (some 5) rfl rfl Try.func60 (by kernel_rfl) rfl #[.int .i64 a0_0, .int .i64 1, .int .i64 4] rfl (by (try simp only [mta, mco, mni]); first | done | rfl | (simp only [lnd, lnt]; rfl)) ?_; (with_reducible refine (impl_between.calls a0_0 1 4 false _ A2.out).mono ?_); rintro e w' ⟨rfl, ⟨nd, rfl⟩⟩; refine ⟨_, rfl, ?_⟩))
  go_ret
  exact ⟨by first | rfl | (simp [errW_none, errW_some] <;> rfl) | (simp [*, errW_none, errW_some] <;> rfl), by repeat (first | (with_reducible first | exact HB.out | apply bal | apply pdn | apply bd1 | refine bst ?_ GE144.out) | exact HB.out)⟩

end Go.Proofs.Ythphhklbliambaa.MFnExactGetOp
