-- Written by a program of this session (wip/tools/myprint.py) over the kit's print: it is not the kit's print.
import Derived.Test.YthphhklbliambaaExtra
import Derived.Test.YthphhklbliambaaMFnOpSamex0
import Derived.Test.YthphhklbliambaaMFnOpSamex1
import Derived.Test.YthphhklbliambaaMFnOpSamex2
import Derived.Test.YthphhklbliambaaMFnOpSamex3
import Derived.Test.YthphhklbliambaaMFnOpSamex4
namespace Go.Proofs.Ythphhklbliambaa.MFnOpSame
open Go.RowKit Go.Proofs.YthphhklbliambaaW.PrintWords Go.Proofs.YthphhklbliambaaW.PrintLast Go.Proofs.YthphhklbliambaaW.PrintMore
open List renaming setIfInBounds_toArray → sit, set_cons_zero → scz, set_cons_succ → scs, map_toArray → mta, map_cons → mco, map_nil → mni, length_drop → lnd, length_take → lnt
attribute [local go_sem] max2_int min2_int max_two min_two max_three min_three max_four min_four   -- for this text's walks alone
set_option linter.unusedVariables false
set_option linter.unusedSimpArgs false

/-! ### spec_DrawApplyOp: function 50 -/
def spec_DrawApplyOp.f (k : Nat) (l0 : List Int) : Option (ByteArray × Bool × Int × Int × ByteArray) := (spec_l00From.f l0).bind fun bt199 => ((spec_l16Plain.f).bind fun bt203 => ((spec_l16Op.f k bt199.1 bt199.2.1 bt199.2.2 bt203.1 bt203.2).bind fun bt205 => ((spec_l00Src_one.f bt199.1 bt205.2.2.2.1 bt205.2.2.2.2 4).bind fun bt211 => ((spec_l16Bytes.f k bt199.1 bt211.2.1 bt211.2.2).bind fun bt214 => (some (bt214.1, !bt211.1, bt205.1, bt205.2.1, bt205.2.2.1))))))
theorem spec_DrawApplyOp.mono : ∀ a0 k, LeO (spec_DrawApplyOp.f k a0) (spec_DrawApplyOp.f (k + 1) a0) := by
 intro a0 k
 unfold spec_DrawApplyOp.f
 repeat' first
   | (with_reducible exact spec_l16Bytes.mono _ _ _ _)
   | (with_reducible exact spec_l16Op.mono _ _ _ _ _ _)
   | (with_reducible exact LeO.refl _)
   | (with_reducible exact LeO.none _)
   | (with_reducible refine LeO.ite ?_ ?_)
   | (with_reducible refine LeO.bind ?_ (fun _ => ?_))
   | exact spec_l16Bytes.mono _ _ _ _
   | exact spec_l16Op.mono _ _ _ _ _ _
   | exact LeO.none _
   | refine LeO.ite ?_ ?_
   | refine LeO.bind ?_ (fun _ => ?_)
set_option maxHeartbeats 8000000 in
set_option maxRecDepth 100000 in
theorem spec_DrawApplyOp.calls (k : Nat) (A0 : Option Addr) (c0 : Nat) (l0 : List Int) (r1 : ByteArray) (r2 : Bool) (r3 : Int) (r4 : Int) (r5 : ByteArray) (w : World) (hr0 : Kd.C (Kd.int .u8) w A0 l0.length l0) (hc0 : l0.length ≤ c0) (h : spec_DrawApplyOp.f k l0 = some (r1, r2, r3, r4, r5)) :
  Calls Try.prog 50 #[.slice A0 l0.length c0] w fun e w' => e = .returned (.tuple #[.string r1, .bool r2, .agg #[.int .i64 r3, .int .i64 r4, .string r5]]) ∧ Below w.heap.size w w' := by
 have hu60 := Try.underlying60
 have HR0 := am hr0
 have HC0 := am hc0
 clear hr0 hc0
 have HB := am (Below.refl w.heap.size w)
 have H : ((spec_l00From.f l0).bind fun bt199 => ((spec_l16Plain.f).bind fun bt203 => ((spec_l16Op.f k bt199.1 bt199.2.1 bt199.2.2 bt203.1 bt203.2).bind fun bt205 => ((spec_l00Src_one.f bt199.1 bt205.2.2.2.1 bt205.2.2.2.2 4).bind fun bt211 => ((spec_l16Bytes.f k bt199.1 bt211.2.1 bt211.2.2).bind fun bt214 => (some (bt214.1, !bt211.1, bt205.1, bt205.2.1, bt205.2.2.1))))))) = some (r1, r2, r3, r4, r5) := h
 clear h
 replace H := Option.bind_eq_some_iff.mp H
 obtain ⟨⟨t199, t200, t201⟩, A20, H⟩ := H
 replace H : ((spec_l16Plain.f).bind fun bt203 => ((spec_l16Op.f k t199 t200 t201 bt203.1 bt203.2).bind fun bt205 => ((spec_l00Src_one.f t199 bt205.2.2.2.1 bt205.2.2.2.2 4).bind fun bt211 => ((spec_l16Bytes.f k t199 bt211.2.1 bt211.2.2).bind fun bt214 => (some (bt214.1, !bt211.1, bt205.1, bt205.2.1, bt205.2.2.1)))))) = some (r1, r2, r3, r4, r5) := H
 have A2 := am A20
 clear A20
 replace H := Option.bind_eq_some_iff.mp H
 obtain ⟨⟨t203, t204⟩, A30, H⟩ := H
 replace H : ((spec_l16Op.f k t199 t200 t201 t203 t204).bind fun bt205 => ((spec_l00Src_one.f t199 bt205.2.2.2.1 bt205.2.2.2.2 4).bind fun bt211 => ((spec_l16Bytes.f k t199 bt211.2.1 bt211.2.2).bind fun bt214 => (some (bt214.1, !bt211.1, bt205.1, bt205.2.1, bt205.2.2.1))))) = some (r1, r2, r3, r4, r5) := H
 have A3 := am A30
 clear A30
 replace H := Option.bind_eq_some_iff.mp H
 obtain ⟨⟨t205, t206, t207, t208, t209⟩, A40, H⟩ := H
 replace H : ((spec_l00Src_one.f t199 t208 t209 4).bind fun bt211 => ((spec_l16Bytes.f k t199 bt211.2.1 bt211.2.2).bind fun bt214 => (some (bt214.1, !bt211.1, t205, t206, t207)))) = some (r1, r2, r3, r4, r5) := H
 have A4 := am A40
 clear A40
 replace H := Option.bind_eq_some_iff.mp H
 obtain ⟨⟨t211, t212, t213⟩, A50, H⟩ := H
 replace H : ((spec_l16Bytes.f k t199 t212 t213).bind fun bt214 => (some (bt214.1, !t211, t205, t206, t207))) = some (r1, r2, r3, r4, r5) := H
 have A5 := am A50
 clear A50
 replace H := Option.bind_eq_some_iff.mp H
 obtain ⟨⟨t214, t215, t216⟩, A60, H⟩ := H
 replace H : (some (t214, !t211, t205, t206, t207)) = some (r1, r2, r3, r4, r5) := H
 have A6 := am A60
 clear A60
 simp only [Option.some.injEq, Prod.mk.injEq] at H
 obtain ⟨rfl, rfl, rfl, rfl, rfl⟩ := H
 go_enter Try.func50, Try.ntmps50
 try go_wp2_with (first | ((with_reducible refine gate_dst (N := 4) rfl ?_); refine box_event ?hg (N := 4) ?hd (cs := #[.int .i64 0, .int .i64 0, .string (⟨#[]⟩ : ByteArray)]) (t := 60) ?hr ?_; (case hd => rfl); (case hg => rfl); (case hr => first | (go_simp; done) | (go_simp; rfl)); intro gb198 hg w7 hbox hb; have n0_ := am (below_step (by repeat (first | (with_reducible first | exact HB.out | apply bal | apply pdn | apply bd1) | exact HB.out)) hb); have n1_ := am (hbox); have n2_ := am ((by rw [hg]; exact (below_size (by repeat (first | (with_reducible first | exact HB.out | apply bal | apply pdn | apply bd1) | exact HB.out))) : w.heap.size ≤ gb198)); have n3_ := am ((by rw [hg]; exact (below_size (by repeat (first | (with_reducible first | exact HB.out | apply bal | apply pdn | apply bd1) | exact HB.out))) : w.heap.size ≤ gb198)); clear HB; have HB := n0_; have BK198 := n1_; have GW198 := n2_; have GE198 := n3_; clear n0_ n1_ n2_ n3_; clear hb hbox hg) | ((with_reducible refine gate_callee (f := 79) rfl ?_); refine goesL_ (some 9) rfl rfl Try.func79 (by kernel_rfl) rfl #[.slice A0 l0.length c0] rfl (by (try simp only [mta, mco, mni]); first | done | rfl | (simp only [lnd, lnt]; rfl)) ?_; (with_reducible refine (spec_l00From.calls _ _ l0 t199 t200 t201 w _ ?side1 ?side2 ?side3 A2.out).mono ?_); (case side1 => repeat (first | (with_reducible first | exact HB.out | apply bal | apply pdn | apply bd1 | refine bst ?_ GE198.out) | exact HB.out)); (case side2 => exact HR0.out); (case side3 => exact HC0.out); rintro e w8 ⟨g202, rfl, hi, hb, hb2⟩; refine ⟨_, rfl, ?_⟩; have n0_ := am (kbb (g := gb198) (o := .cells #[.int .i64 0, .int .i64 0, .string (⟨#[]⟩ : ByteArray)] 60 (0, 0)) (by (with_reducible repeat (first | apply kdn | apply kdr | apply kal)); exact BK198.out) hb2); have n1_ := am (hb); have n2_ := am (hi); have n3_ := am (IsS139.ne_blk hi (kbb (g := gb198) (o := .cells #[.int .i64 0, .int .i64 0, .string (⟨#[]⟩ : ByteArray)] 60 (0, 0)) (by (with_reducible repeat (first | apply kdn | apply kdr | apply kal)); exact BK198.out) hb2) (by decide)); have n4_ := am (Ne.symm (IsS139.ne_blk hi (kbb (g := gb198) (o := .cells #[.int .i64 0, .int .i64 0, .string (⟨#[]⟩ : ByteArray)] 60 (0, 0)) (by (with_reducible repeat (first | apply kdn | apply kdr | apply kal)); exact BK198.out) hb2) (by decide))); clear BK198; clear HB; have BK198 := n0_; have HB := n1_; have HI202 := n2_; have NB202_198 := n3_; have NB198_202 := n4_; clear n0_ n1_ n2_ n3_ n4_; (try clear hb); (try clear hb2); (try clear hk); (try clear hi)) | ((with_reducible refine gate_callee (f := 83) rfl ?_); refine goesL_ (some 11) rfl rfl Try.func83 (by kernel_rfl) rfl #[] rfl (by (try simp only [mta, mco, mni]); first | done | rfl | (simp only [lnd, lnt]; rfl)) ?_; (with_reducible refine (spec_l16Plain.calls  t203 t204 _ A3.out).mono ?_); rintro e w9 ⟨rfl, hb⟩; refine ⟨_, rfl, ?_⟩; have n0_ := am (kbb (g := gb198) (o := .cells #[.int .i64 0, .int .i64 0, .string (⟨#[]⟩ : ByteArray)] 60 (0, 0)) (by (with_reducible repeat (first | apply kdn | apply kdr | apply kal)); exact BK198.out) hb); have n1_ := am (IsS139.below (by repeat (first | (with_reducible first | exact HI202.out | apply IsS139.alloc | apply IsS139.drewN | apply IsS139.drew | apply IsS139.set_1 | apply IsS139.set_2 | refine IsS139.far ?_ NB202_198.out _) | exact HI202.out)) hb); have n2_ := am (below_step (by repeat (first | (with_reducible first | exact HB.out | apply bal | apply pdn | apply bd1 | refine bst ?_ (IsS139.ge HI202.out) | refine bst ?_ GE198.out) | exact HB.out)) hb); clear BK198; clear HI202; clear HB; have BK198 := n0_; have HI202 := n1_; have HB := n2_; clear n0_ n1_ n2_; (try clear hb); (try clear hb2); (try clear hk); (try clear hi)) | ((with_reducible refine gate_callee (f := 99) rfl ?_); refine goesL_ (some 12) rfl rfl Try.func99 (by kernel_rfl) rfl #[.pointer (some ⟨g202, 0, none⟩), .agg #[.int .i64 t203, .int .i64 t204]] rfl (by (try simp only [mta, mco, mni]); first | done | rfl | (simp only [lnd, lnt]; rfl)) ?_; (with_reducible refine (spec_l16Op.calls k g202 t199 t200 t201 t203 t204 t205 t206 t207 t208 t209 w _ ?side1 ?side2 A4.out).mono ?_); (case side1 => repeat (first | (with_reducible first | exact HI202.out | apply IsS139.alloc | apply IsS139.drewN | apply IsS139.drew | apply IsS139.set_1 | apply IsS139.set_2 | refine IsS139.far ?_ NB202_198.out _) | exact HI202.out)); (case side2 => repeat (first | (with_reducible first | exact HB.out | apply bal | apply pdn | apply bd1 | refine bst ?_ (IsS139.ge HI202.out) | refine bst ?_ GE198.out) | exact HB.out)); rintro e w10 ⟨rfl, hi, hb, hk⟩; refine ⟨_, rfl, ?_⟩; have n0_ := am (KeepBut.blk hk (g' := gb198) (o := .cells #[.int .i64 0, .int .i64 0, .string (⟨#[]⟩ : ByteArray)] 60 (0, 0)) (by (with_reducible repeat (first | apply kdn | apply kdr | apply kal)); exact BK198.out) NB198_202.out (by simp)); have n1_ := am (hb); have n2_ := am (hi); clear BK198; clear HB; clear HI202; have BK198 := n0_; have HB := n1_; have HI202 := n2_; clear n0_ n1_ n2_; (try clear hb); (try clear hb2); (try clear hk); (try clear hi)) | ((with_reducible refine gate_dst (N := 6) rfl ?_); refine box_event ?hg (N := 6) ?hd (cs := #[.int .i64 0, .int .i64 0, .string (⟨#[]⟩ : ByteArray)]) (t := 60) ?hr ?_; (case hd => rfl); (case hg => rfl); (case hr => first | (go_simp; done) | (go_simp; rfl)); intro gb210 hg w11 hbox hb; have n0_ := am (kbb (g := gb198) (o := .cells #[.int .i64 0, .int .i64 0, .string (⟨#[]⟩ : ByteArray)] 60 (0, 0)) (by (with_reducible repeat (first | apply kdn | apply kdr | apply kal)); exact BK198.out) hb); have n1_ := am (IsS139.below (by repeat (first | (with_reducible first | exact HI202.out | apply IsS139.alloc | apply IsS139.drewN | apply IsS139.drew | apply IsS139.set_1 | apply IsS139.set_2 | refine IsS139.far ?_ NB202_198.out _) | exact HI202.out)) hb); have n2_ := am (below_step (by repeat (first | (with_reducible first | exact HB.out | apply bal | apply pdn | apply bd1 | refine bst ?_ (IsS139.ge HI202.out) | refine bst ?_ GE198.out) | exact HB.out)) hb); have n3_ := am (hbox); have n4_ := am ((by rw [hg]; exact (below_size (by repeat (first | (with_reducible first | exact HB.out | apply bal | apply pdn | apply bd1 | refine bst ?_ (IsS139.ge HI202.out) | refine bst ?_ GE198.out) | exact HB.out))) : w.heap.size ≤ gb210)); have n5_ := am ((by rw [hg]; exact (below_size (by repeat (first | (with_reducible first | exact HB.out | apply bal | apply pdn | apply bd1 | refine bst ?_ (IsS139.ge HI202.out) | refine bst ?_ GE198.out) | exact HB.out))) : w.heap.size ≤ gb210)); have n6_ := am ((by rw [hg]; exact Nat.ne_of_lt (blk_lt (g := gb198) (o := .cells #[.int .i64 0, .int .i64 0, .string (⟨#[]⟩ : ByteArray)] 60 (0, 0)) (by (with_reducible repeat (first | apply kdn | apply kdr | apply kal)); exact BK198.out)) : gb198 ≠ gb210)); have n7_ := am ((by rw [hg]; exact Nat.ne_of_gt (blk_lt (g := gb198) (o := .cells #[.int .i64 0, .int .i64 0, .string (⟨#[]⟩ : ByteArray)] 60 (0, 0)) (by (with_reducible repeat (first | apply kdn | apply kdr | apply kal)); exact BK198.out)) : gb210 ≠ gb198)); have n8_ := am ((by rw [hg]; exact Nat.ne_of_lt (IsS139.lt (show IsS139 w _ g202 t199 t208 t209 from by repeat (first | (with_reducible first | exact HI202.out | apply IsS139.alloc | apply IsS139.drewN | apply IsS139.drew | apply IsS139.set_1 | apply IsS139.set_2 | refine IsS139.far ?_ NB202_198.out _) | exact HI202.out))) : g202 ≠ gb210)); have n9_ := am ((by rw [hg]; exact Nat.ne_of_gt (IsS139.lt (show IsS139 w _ g202 t199 t208 t209 from by repeat (first | (with_reducible first | exact HI202.out | apply IsS139.alloc | apply IsS139.drewN | apply IsS139.drew | apply IsS139.set_1 | apply IsS139.set_2 | refine IsS139.far ?_ NB202_198.out _) | exact HI202.out))) : gb210 ≠ g202)); clear BK198; clear HI202; clear HB; have BK198 := n0_; have HI202 := n1_; have HB := n2_; have BK210 := n3_; have GW210 := n4_; have GE210 := n5_; have NB198_210 := n6_; have NB210_198 := n7_; have NB202_210 := n8_; have NB210_202 := n9_; clear n0_ n1_ n2_ n3_ n4_ n5_ n6_ n7_ n8_ n9_; clear hb hbox hg; have hnb12 := NB210_198.out; have hnc12 := NB198_210.out; have hnb13 := NB210_202.out; have hnc13 := NB202_210.out; have hcz14_0 : w11.cell? ⟨gb210, 0, none⟩ = some (.int .i64 0) := (kce BK210.out 0).trans rfl; have hcz14_1 : w11.cell? ⟨gb210, 1, none⟩ = some (.int .i64 0) := (kce BK210.out 1).trans rfl; have hcz14_2 : w11.cell? ⟨gb210, 2, none⟩ = some (.string (⟨#[]⟩ : ByteArray)) := (kce BK210.out 2).trans rfl; have hfz14_0 := kfr BK210.out 0; have hfz14_1 := kfr BK210.out 1; have hfz14_2 := kfr BK210.out 2) | ((with_reducible refine gate_callee (f := 81) rfl ?_); refine goesL_ (some 14) rfl rfl Try.func81 (by kernel_rfl) rfl #[.pointer (some ⟨g202, 0, none⟩), .int .i64 4] rfl (by (try simp only [mta, mco, mni]); first | done | rfl | (simp only [lnd, lnt]; rfl)) ?_; (with_reducible refine (spec_l00Src_one.calls g202 t199 t208 t209 4 t211 t212 t213 w _ ?side1 ?side2 A5.out).mono ?_); (case side1 => repeat (first | (with_reducible first | exact HI202.out | apply IsS139.alloc | apply IsS139.drewN | apply IsS139.drew | apply IsS139.set_1 | apply IsS139.set_2 | refine IsS139.far ?_ NB202_198.out _ | refine IsS139.far ?_ NB202_210.out _) | exact HI202.out)); (case side2 => repeat (first | (with_reducible first | exact HB.out | apply bal | apply pdn | apply bd1 | refine bst ?_ (IsS139.ge HI202.out) | refine bst ?_ GE198.out | refine bst ?_ GE210.out) | exact HB.out)); rintro e w15 ⟨rfl, hi, hb, hk⟩; refine ⟨_, rfl, ?_⟩; have n0_ := am (KeepBut.blk hk (g' := gb198) (o := .cells #[.int .i64 0, .int .i64 0, .string (⟨#[]⟩ : ByteArray)] 60 (0, 0)) (by (with_reducible repeat (first | apply kdn | apply kdr | apply kal)); refine blk_far ?_ NB198_210.out _; (with_reducible repeat (first | apply kdn | apply kdr | apply kal)); refine blk_far ?_ NB198_210.out _; (with_reducible repeat (first | apply kdn | apply kdr | apply kal)); refine blk_far ?_ NB198_210.out _; (with_reducible repeat (first | apply kdn | apply kdr | apply kal)); exact BK198.out) NB198_202.out (by simp)); have n1_ := am (KeepBut.blk hk (g' := gb210) (o := .cells #[.int .i64 t205, .int .i64 t206, .string t207] 60 (0, 0)) (by (with_reducible repeat (first | apply kdn | apply kdr | apply kal)); refine blk_put (cs := #[.int .i64 t205, .int .i64 t206, .string (⟨#[]⟩ : ByteArray)]) ?_ 2 _ rfl; (with_reducible repeat (first | apply kdn | apply kdr | apply kal)); refine blk_put (cs := #[.int .i64 t205, .int .i64 0, .string (⟨#[]⟩ : ByteArray)]) ?_ 1 _ rfl; (with_reducible repeat (first | apply kdn | apply kdr | apply kal)); refine blk_put (cs := #[.int .i64 0, .int .i64 0, .string (⟨#[]⟩ : ByteArray)]) ?_ 0 _ rfl; (with_reducible repeat (first | apply kdn | apply kdr | apply kal)); exact BK210.out) NB210_202.out (by simp)); have n2_ := am (hb); have n3_ := am (hi); clear BK198; clear BK210; clear HB; clear HI202; have BK198 := n0_; have BK210 := n1_; have HB := n2_; have HI202 := n3_; clear n0_ n1_ n2_ n3_; (try clear hb); (try clear hb2); (try clear hk); (try clear hi)))
 have n0_ := am (kdr BK198.out)
 have n1_ := am (kdr BK210.out)
 have n2_ := am (IsS139.drew HI202.out)
 have n3_ := am (bd1 HB.out)
 clear BK198
 clear BK210
 clear HI202
 clear HB
 have BK198 := n0_
 have BK210 := n1_
 have HI202 := n2_
 have HB := n3_
 clear n0_ n1_ n2_ n3_
 refine start_ (n := 7) (S := fun w' => w'.cell? ⟨gb210, 0, none⟩ = some (.int .i64 t205) ∧ w'.cell? ⟨gb210, 1, none⟩ = some (.int .i64 t206) ∧ w'.cell? ⟨gb210, 2, none⟩ = some (.string t207)) (ds := []) #[false, false, false, false, false, false, false] (by kernel_rfl) rfl rfl ⟨(kce BK210.out 0).trans rfl, (kce BK210.out 1).trans rfl, (kce BK210.out 2).trans rfl⟩ (fun hHeld => ?_)
 generalize w15.drew = w16 at BK198 BK210 HI202 HB hHeld ⊢
 refine pure_ (i := 0) (N := some 16) (v := ?_) (a' := ?_) #[true, false, false, false, false, false, false] rfl rfl (by kernel_rfl) (fun _ _ _ h => h) (Or.inl ⟨by rfl, ?_⟩) ?_ ?_
 rotate_left
 ·intro w'
  go_simp
  with_reducible rfl
 rotate_left
 ·simp only [Act.put, sit, scz, scs, i64_w, i32_w]
  rfl
 refine pure_ (i := 2) (N := some 18) (v := ?_) (a' := ?_) #[true, false, true, false, false, false, false] rfl rfl (by kernel_rfl) (fun _ _ _ h => h) (Or.inl ⟨by rfl, ?_⟩) ?_ ?_
 rotate_left
 ·intro w'
  go_simp
  with_reducible rfl
 rotate_left
 ·simp only [Act.put, sit, scz, scs, i64_w, i32_w]
  rfl
 refine take_ (i := 3) (N := some 19) (v := ?_) (a' := ?_) #[true, false, true, true, false, false, false] rfl rfl (by kernel_rfl) (fun _ _ _ h => h) (Or.inl ⟨by rfl, ?_⟩) hHeld ?_ ?_
 rotate_left
 ·rintro w' ⟨s0, s1, s2⟩
  go_simp
  with_reducible rfl
 rotate_left
 ·simp only [Act.put, sit, scz, scs, i64_w, i32_w]
  rfl
 refine one_ (i := 1) (N := some 17) #[true, true, true, true, false, false, false] rfl rfl (by kernel_rfl) (by decide) (fun K hK => ?_)
 refine goes_ Try.func100 (by kernel_rfl) rfl #[.pointer (some ⟨g202, 0, none⟩)] (by rfl) rfl rfl (by (try simp only [mta, mco, mni]); first | done | rfl | (simp only [lnd, lnt]; rfl)) ?_
 with_reducible refine (spec_l16Bytes.calls k g202 t199 t212 t213 t214 t215 t216 w _ ?side1 ?side2 A6.out).mono ?_
 (case side1 => repeat (first | (with_reducible first | exact HI202.out | apply IsS139.alloc | apply IsS139.drewN | apply IsS139.drew | apply IsS139.set_1 | apply IsS139.set_2 | refine IsS139.far ?_ NB202_198.out _ | refine IsS139.far ?_ NB202_210.out _) | exact HI202.out))
 (case side2 => repeat (first | (with_reducible first | exact HB.out | apply bal | apply pdn | apply bd1 | refine bst ?_ (IsS139.ge HI202.out) | refine bst ?_ GE198.out | refine bst ?_ GE210.out) | exact HB.out))
 rintro e w17 ⟨rfl, hi, hb, hk⟩
 refine ⟨_, rfl, ?_⟩
 have n0_ := am (KeepBut.blk hk (g' := gb198) (o := .cells #[.int .i64 0, .int .i64 0, .string (⟨#[]⟩ : ByteArray)] 60 (0, 0)) (by (with_reducible repeat (first | apply kdn | apply kdr | apply kal)); exact BK198.out) NB198_202.out (by simp))
 have n1_ := am (KeepBut.blk hk (g' := gb210) (o := .cells #[.int .i64 t205, .int .i64 t206, .string t207] 60 (0, 0)) (by (with_reducible repeat (first | apply kdn | apply kdr | apply kal)); exact BK210.out) NB210_202.out (by simp))
 have n2_ := am (hb)
 have n3_ := am (hi)
 clear BK198
 clear BK210
 clear HB
 clear HI202
 have BK198 := n0_
 have BK210 := n1_
 have HB := n2_
 have HI202 := n3_
 clear n0_ n1_ n2_ n3_
 refine hK.out _ _ ⟨(kce BK210.out 0).trans rfl, (kce BK210.out 1).trans rfl, (kce BK210.out 2).trans rfl⟩ (fun hHeld => ?_)
 clear hK K
 refine norm_ (a' := ?_) ?_ ?_
 rotate_left
 ·show Act.put _ (some 17) _ = _
  simp only [Act.put, sit, scz, scs, i64_w, i32_w]
  rfl
 refine pure_ (i := 4) (N := some 2) (v := ?_) (a' := ?_) #[true, true, true, true, true, false, false] rfl rfl (by kernel_rfl) (fun _ _ _ h => h) (Or.inl ⟨by rfl, ?_⟩) ?_ ?_
 rotate_left
 ·intro w'
  go_simp
  with_reducible rfl
 rotate_left
 ·simp only [Act.put, sit, scz, scs, i64_w, i32_w]
  rfl
 refine pure_ (i := 5) (N := some 3) (v := ?_) (a' := ?_) #[true, true, true, true, true, true, false] rfl rfl (by kernel_rfl) (fun _ _ _ h => h) (Or.inl ⟨by rfl, ?_⟩) ?_ ?_
 rotate_left
 ·intro w'
  go_simp
  with_reducible rfl
 rotate_left
 ·simp only [Act.put, sit, scz, scs, i64_w, i32_w]
  rfl
 refine one_ (i := 6) (N := none) #[true, true, true, true, true, true, true] rfl rfl (by kernel_rfl) (by decide) (fun K hK => ?_)
 have hs18 : w17.cell? ⟨gb198, 0, none⟩ = some (.int .i64 0) := (kce BK198.out 0).trans rfl
 have hfs18 := kfr BK198.out 0
 have hns18_1 := NB210_198.out
 have hms18_1 := NB198_210.out
 have hs19 : w17.cell? ⟨gb198, 1, none⟩ = some (.int .i64 0) := (kce BK198.out 1).trans rfl
 have hfs19 := kfr BK198.out 1
 have hns19_1 := NB210_198.out
 have hms19_1 := NB198_210.out
 have hs20 : w17.cell? ⟨gb198, 2, none⟩ = some (.string (⟨#[]⟩ : ByteArray)) := (kce BK198.out 2).trans rfl
 have hfs20 := kfr BK198.out 2
 have hns20_1 := NB210_198.out
 have hms20_1 := NB198_210.out
 refine skip_ (w1 := ?_) (by rfl) rfl ?_ ?_
 rotate_left
 ·go_simp
  rfl
 refine hK.out _ _ ⟨((cell_far (p := ⟨gb198, _, none⟩) NB210_198.out _).trans (((cell_far (p := ⟨gb198, _, none⟩) NB210_198.out _).trans (((cell_far (p := ⟨gb198, _, none⟩) NB210_198.out _).trans (hHeld.1)))))), ((cell_far (p := ⟨gb198, _, none⟩) NB210_198.out _).trans (((cell_far (p := ⟨gb198, _, none⟩) NB210_198.out _).trans (((cell_far (p := ⟨gb198, _, none⟩) NB210_198.out _).trans (hHeld.2.1)))))), ((cell_far (p := ⟨gb198, _, none⟩) NB210_198.out _).trans (((cell_far (p := ⟨gb198, _, none⟩) NB210_198.out _).trans (((cell_far (p := ⟨gb198, _, none⟩) NB210_198.out _).trans (hHeld.2.2))))))⟩ (fun hHeld => ?_)
 clear hK K
 refine done_ (by kernel_rfl) ?_
 try go_wp2
 refine bodyPost_ret (results_list (rs := [.tmp 2, .tmp 3, .cell 4 60]) rfl (by simp) (.tmp (.tmp (.cell gb198 60 #[.int .i64 t205, .int .i64 t206, .string t207] (0, 0) _ rfl (by (with_reducible repeat (first | apply kdn | apply kdr | apply kal)); refine blk_put (cs := #[.int .i64 t205, .int .i64 t206, .string (⟨#[]⟩ : ByteArray)]) ?_ 2 _ rfl; (with_reducible repeat (first | apply kdn | apply kdr | apply kal)); refine blk_put (cs := #[.int .i64 t205, .int .i64 0, .string (⟨#[]⟩ : ByteArray)]) ?_ 1 _ rfl; (with_reducible repeat (first | apply kdn | apply kdr | apply kal)); refine blk_put (cs := #[.int .i64 0, .int .i64 0, .string (⟨#[]⟩ : ByteArray)]) ?_ 0 _ rfl; (with_reducible repeat (first | apply kdn | apply kdr | apply kal)); exact BK198.out) Try.underlying60 rfl (by kernel_rfl) .nil)))) rfl ?_
 exact ⟨by first | rfl | (simp [errW_none, errW_some] <;> rfl) | (simp [*, errW_none, errW_some] <;> rfl), by repeat (first | (with_reducible first | exact HB.out | apply bal | apply pdn | apply bd1 | refine bst ?_ (IsS139.ge HI202.out) | refine bst ?_ GE198.out | refine bst ?_ GE210.out) | exact HB.out)⟩

/-! ### laws_FnOpSame: function 13 -/
mutual
def laws_FnOpSame.j0 : Nat → ByteArray → Bool → Bool → Int → Int → ByteArray → Option (Bool)
 | 0, _, _, _, _, _, _ => none
 | k + 1, x5, x6, x37, x224000, x224001, x224002 => if x37 = true then (some true) else (if x6 = true then (laws_FnOpSame.j1 k x5 x6 x224000 x224001 x224002) else (laws_FnOpSame.j1 k (⟨#[]⟩ : ByteArray) x6 x224000 x224001 x224002))
def laws_FnOpSame.j1 : Nat → ByteArray → Bool → Int → Int → ByteArray → Option (Bool)
 | 0, _, _, _, _, _ => none
 | k + 1, x5, x6, x224000, x224001, x224002 => (impl_ApplyOp.f k x5 x6 1 0 (⟨#[]⟩ : ByteArray)).bind fun bt224 => ((impl_ApplyOp.f k x5 x6 2 0 x224002).bind fun bt226 => ((impl_ApplyOp.f k bt226.1 bt226.2 2 0 x224002).bind fun bt228 => ((impl_ApplyOp.f k x5 x6 4 0 x224002).bind fun bt230 => ((impl_ApplyOp.f k x5 x6 3 (x5.size : Int) x224002).bind fun bt232 => ((impl_ApplyOp.f k x5 x6 6 0 (⟨#[]⟩ : ByteArray)).bind fun bt234 => (if bt224.1.toList = x5.toList then (if (bt224.2 == x6) = true then (if bt226.1.toList = x224002.toList then (if bt226.2 = true then (if bt228.1.toList = bt226.1.toList then (if bt228.2 = true then (if bt230.1.toList = bt232.1.toList then (if bt230.2 = true then (if bt232.2 = true then (if bt234.1.toList = ([] : List UInt8) then (some (!bt234.2)) else (some false)) else (some false)) else (some false)) else (some false)) else (some false)) else (some false)) else (some false)) else (some false)) else (some false)) else (some false)))))))
end
def laws_FnOpSame.f (k : Nat) (l0 : List Int) (l1 : List Int) : Option (Bool) := (laws_b10Long.f l0 l1).bind fun t217 => (if t217 = true then (some true) else ((spec_DrawApplyOp.f k l0).bind fun bt218 => (if (bt218.1.size : Int) > 64 then (laws_FnOpSame.j0 k bt218.1 bt218.2.1 true bt218.2.2.1 bt218.2.2.2.1 bt218.2.2.2.2) else (laws_FnOpSame.j0 k bt218.1 bt218.2.1 (decide ((bt218.2.2.2.2.size : Int) > 64)) bt218.2.2.1 bt218.2.2.2.1 bt218.2.2.2.2))))
theorem laws_FnOpSame.mono_l : ∀ k, (∀ y0 y1 y2 y3 y4 y5, LeO (laws_FnOpSame.j0 k y0 y1 y2 y3 y4 y5) (laws_FnOpSame.j0 (k + 1) y0 y1 y2 y3 y4 y5)) ∧ (∀ y0 y1 y2 y3 y4, LeO (laws_FnOpSame.j1 k y0 y1 y2 y3 y4) (laws_FnOpSame.j1 (k + 1) y0 y1 y2 y3 y4))
 | 0 => ⟨fun _ _ _ _ _ _ r h => by simp [laws_FnOpSame.j0] at h, fun _ _ _ _ _ r h => by simp [laws_FnOpSame.j1] at h⟩
 | k + 1 => by
  obtain ⟨ih0, ih1⟩ := laws_FnOpSame.mono_l k
  refine ⟨?_, ?_⟩
  ·intro y0 y1 y2 y3 y4 y5
   unfold laws_FnOpSame.j0
   repeat' first
   | (with_reducible exact ih0 _ _ _ _ _ _)
   | (with_reducible exact ih1 _ _ _ _ _)
   | (with_reducible exact impl_ApplyOp.mono _ _ _ _ _ _)
   | (with_reducible exact spec_DrawApplyOp.mono _ _)
   | (with_reducible exact LeO.refl _)
   | (with_reducible exact LeO.none _)
   | (with_reducible refine LeO.ite ?_ ?_)
   | (with_reducible refine LeO.bind ?_ (fun _ => ?_))
   | exact ih0 _ _ _ _ _ _
   | exact ih1 _ _ _ _ _
   | exact impl_ApplyOp.mono _ _ _ _ _ _
   | exact spec_DrawApplyOp.mono _ _
   | exact LeO.none _
   | refine LeO.ite ?_ ?_
   | refine LeO.bind ?_ (fun _ => ?_)
  ·intro y0 y1 y2 y3 y4
   unfold laws_FnOpSame.j1
   repeat' first
   | (with_reducible exact ih0 _ _ _ _ _ _)
   | (with_reducible exact ih1 _ _ _ _ _)
   | (with_reducible exact impl_ApplyOp.mono _ _ _ _ _ _)
   | (with_reducible exact spec_DrawApplyOp.mono _ _)
   | (with_reducible exact LeO.refl _)
   | (with_reducible exact LeO.none _)
   | (with_reducible refine LeO.ite ?_ ?_)
   | (with_reducible refine LeO.bind ?_ (fun _ => ?_))
   | exact ih0 _ _ _ _ _ _
   | exact ih1 _ _ _ _ _
   | exact impl_ApplyOp.mono _ _ _ _ _ _
   | exact spec_DrawApplyOp.mono _ _
   | exact LeO.none _
   | refine LeO.ite ?_ ?_
   | refine LeO.bind ?_ (fun _ => ?_)
theorem laws_FnOpSame.mono : ∀ a0 a1 k, LeO (laws_FnOpSame.f k a0 a1) (laws_FnOpSame.f (k + 1) a0 a1) := by
 intro a0 a1 k
 obtain ⟨ih0, ih1⟩ := laws_FnOpSame.mono_l k
 unfold laws_FnOpSame.f
 repeat' first
   | (with_reducible exact ih0 _ _ _ _ _ _)
   | (with_reducible exact ih1 _ _ _ _ _)
   | (with_reducible exact impl_ApplyOp.mono _ _ _ _ _ _)
   | (with_reducible exact spec_DrawApplyOp.mono _ _)
   | (with_reducible exact LeO.refl _)
   | (with_reducible exact LeO.none _)
   | (with_reducible refine LeO.ite ?_ ?_)
   | (with_reducible refine LeO.bind ?_ (fun _ => ?_))
   | exact ih0 _ _ _ _ _ _
   | exact ih1 _ _ _ _ _
   | exact impl_ApplyOp.mono _ _ _ _ _ _
   | exact spec_DrawApplyOp.mono _ _
   | exact LeO.none _
   | refine LeO.ite ?_ ?_
   | refine LeO.bind ?_ (fun _ => ?_)
set_option maxHeartbeats 8000000 in
set_option maxRecDepth 100000 in
theorem laws_FnOpSame.calls (k : Nat) (A0 : Option Addr) (c0 : Nat) (l0 : List Int) (A1 : Option Addr) (c1 : Nat) (l1 : List Int) (r : Bool) (w : World) (hr0 : Kd.C (Kd.int .u8) w A0 l0.length l0) (hc0 : l0.length ≤ c0) (hr1 : Kd.C (Kd.int .u8) w A1 l1.length l1) (hc1 : l1.length ≤ c1) (hT0 : r = true) (h : laws_FnOpSame.f k l0 l1 = some r) :
  Calls Try.prog 13 #[.slice A0 l0.length c0, .slice A1 l1.length c1] w fun e w' => e = .returned (.bool r) ∧ Below w.heap.size w w' := by
 have hT := am hT0
 clear hT0
 have hu60 := Try.underlying60
 have HR0 := am hr0
 have HC0 := am hc0
 clear hr0 hc0
 have HR1 := am hr1
 have HC1 := am hc1
 clear hr1 hc1
 have HB := am (Below.refl w.heap.size w)
 have H : ((laws_b10Long.f l0 l1).bind fun t217 => (if t217 = true then (some true) else ((spec_DrawApplyOp.f k l0).bind fun bt218 => (if (bt218.1.size : Int) > 64 then (laws_FnOpSame.j0 k bt218.1 bt218.2.1 true bt218.2.2.1 bt218.2.2.2.1 bt218.2.2.2.2) else (laws_FnOpSame.j0 k bt218.1 bt218.2.1 (decide ((bt218.2.2.2.2.size : Int) > 64)) bt218.2.2.1 bt218.2.2.2.1 bt218.2.2.2.2))))) = some r := h
 clear h
 replace H := Option.bind_eq_some_iff.mp H
 obtain ⟨t217, A30, H⟩ := H
 replace H : (if t217 = true then (some true) else ((spec_DrawApplyOp.f k l0).bind fun bt218 => (if (bt218.1.size : Int) > 64 then (laws_FnOpSame.j0 k bt218.1 bt218.2.1 true bt218.2.2.1 bt218.2.2.2.1 bt218.2.2.2.2) else (laws_FnOpSame.j0 k bt218.1 bt218.2.1 (decide ((bt218.2.2.2.2.size : Int) > 64)) bt218.2.2.1 bt218.2.2.2.1 bt218.2.2.2.2)))) = some r := H
 have A3 := am A30
 clear A30
 by_cases c4 : t217 = true
 ·subst c4
  have H1 : (some true) = some r := by rw [if_pos rfl] at H; exact H
  clear H
  have H := H1
  clear H1
  obtain rfl := Option.some.inj H
  go_enter Try.func13, Try.ntmps13
  go_wp2_with (first | ((with_reducible refine gate_callee (f := 33) rfl ?_); refine goesL_ (some 22) rfl rfl Try.func33 (by kernel_rfl) rfl #[.slice A0 l0.length c0, .slice A1 l1.length c1] rfl (by (try simp only [mta, mco, mni]); first | done | rfl | (simp only [lnd, lnt]; rfl)) ?_; (with_reducible refine (laws_b10Long.calls _ _ l0 _ _ l1 true _ ?side1 ?side2 ?side3 ?side4 A3.out).mono ?_); (case side1 => repeat (first | exact HR0.out | (with_reducible first | apply kca | apply kcn | apply kcd))); (case side2 => exact HC0.out); (case side3 => repeat (first | exact HR1.out | (with_reducible first | apply kca | apply kcn | apply kcd))); (case side4 => exact HC1.out); rintro e w' ⟨rfl, ⟨nd, rfl⟩⟩; refine ⟨_, rfl, ?_⟩))
  go_ret
  exact ⟨by first | rfl | (simp [errW_none, errW_some] <;> rfl) | (simp [*, errW_none, errW_some] <;> rfl), by repeat (first | (with_reducible first | exact HB.out | apply bal | apply pdn | apply bd1) | exact HB.out)⟩
 ·replace c4 := Bool.eq_false_iff.mpr c4
  subst c4
  have H1 : ((spec_DrawApplyOp.f k l0).bind fun bt218 => (if (bt218.1.size : Int) > 64 then (laws_FnOpSame.j0 k bt218.1 bt218.2.1 true bt218.2.2.1 bt218.2.2.2.1 bt218.2.2.2.2) else (laws_FnOpSame.j0 k bt218.1 bt218.2.1 (decide ((bt218.2.2.2.2.size : Int) > 64)) bt218.2.2.1 bt218.2.2.2.1 bt218.2.2.2.2))) = some r := by rw [if_neg (show ¬ (false = true) by decide)] at H; exact H
  clear H
  have H := H1
  clear H1
  replace H := Option.bind_eq_some_iff.mp H
  obtain ⟨⟨t218, t219, t220, t221, t222⟩, A50, H⟩ := H
  replace H : (if (t218.size : Int) > 64 then (laws_FnOpSame.j0 k t218 t219 true t220 t221 t222) else (laws_FnOpSame.j0 k t218 t219 (decide ((t222.size : Int) > 64)) t220 t221 t222)) = some r := H
  have A5 := am A50
  clear A50
  have HC6 := am H
  clear H
  go_enter Try.func13, Try.ntmps13
  go_upto_region 4 with (first | ((with_reducible refine gate_callee (f := 33) rfl ?_); refine goesL_ (some 22) rfl rfl Try.func33 (by kernel_rfl) rfl #[.slice A0 l0.length c0, .slice A1 l1.length c1] rfl (by (try simp only [mta, mco, mni]); first | done | rfl | (simp only [lnd, lnt]; rfl)) ?_; (with_reducible refine (laws_b10Long.calls _ _ l0 _ _ l1 false _ ?side1 ?side2 ?side3 ?side4 A3.out).mono ?_); (case side1 => repeat (first | exact HR0.out | (with_reducible first | apply kca | apply kcn | apply kcd))); (case side2 => exact HC0.out); (case side3 => repeat (first | exact HR1.out | (with_reducible first | apply kca | apply kcn | apply kcd))); (case side4 => exact HC1.out); rintro e w' ⟨rfl, ⟨nd, rfl⟩⟩; refine ⟨_, rfl, ?_⟩) | ((with_reducible refine gate_callee (f := 50) rfl ?_); refine goesL_ (some 25) rfl rfl Try.func50 (by kernel_rfl) rfl #[.slice A0 l0.length c0] rfl (by (try simp only [mta, mco, mni]); first | done | rfl | (simp only [lnd, lnt]; rfl)) ?_; (with_reducible refine (spec_DrawApplyOp.calls k _ _ l0 t218 t219 t220 t221 t222 _ ?side1 ?side2 A5.out).mono ?_); (case side1 => repeat (first | exact HR0.out | (with_reducible first | apply kca | apply kcn | apply kcd))); (case side2 => exact HC0.out); rintro e w7 ⟨rfl, hb⟩; refine ⟨_, rfl, ?_⟩; have n0_ := am (below_step (by repeat (first | (with_reducible first | exact HB.out | apply bal | apply pdn | apply bd1) | exact HB.out)) hb); clear HB; have HB := n0_; clear n0_; (try clear hb); (try clear hb2); (try clear hk); (try clear hi)) | ((with_reducible refine gate_dst (N := 7) rfl ?_); (try (refine gate_guard (by rfl) ?_; dsimp only)); refine box_event ?hg (N := 7) ?hd (cs := #[.int .i64 0, .int .i64 0, .string (⟨#[]⟩ : ByteArray)]) (t := 60) ?hr ?_; (case hd => rfl); (case hg => rfl); (case hr => first | (go_simp; done) | (go_simp; rfl)); intro gb223 hg w8 hbox hb; have n0_ := am (below_step (by repeat (first | (with_reducible first | exact HB.out | apply bal | apply pdn | apply bd1) | exact HB.out)) hb); have n1_ := am (hbox); have n2_ := am ((by rw [hg]; exact (below_size (by repeat (first | (with_reducible first | exact HB.out | apply bal | apply pdn | apply bd1) | exact HB.out))) : w.heap.size ≤ gb223)); have n3_ := am ((by rw [hg]; exact (below_size (by repeat (first | (with_reducible first | exact HB.out | apply bal | apply pdn | apply bd1) | exact HB.out))) : w.heap.size ≤ gb223)); clear HB; have HB := n0_; have BK223 := n1_; have GW223 := n2_; have GE223 := n3_; clear n0_ n1_ n2_ n3_; clear hb hbox hg; have hcz9_0 : w8.cell? ⟨gb223, 0, none⟩ = some (.int .i64 0) := (kce BK223.out 0).trans rfl; have hcz9_1 : w8.cell? ⟨gb223, 1, none⟩ = some (.int .i64 0) := (kce BK223.out 1).trans rfl; have hcz9_2 : w8.cell? ⟨gb223, 2, none⟩ = some (.string (⟨#[]⟩ : ByteArray)) := (kce BK223.out 2).trans rfl; have hfz9_0 := kfr BK223.out 0; have hfz9_1 := kfr BK223.out 1; have hfz9_2 := kfr BK223.out 2))
  (try simp only [Act.put, sit, scz, scs])
  go_cut [37] (fun v37 wc => ∃ (kq : Nat) (x37_5 : Bool), v37 = .bool x37_5 ∧ Aside0 (laws_FnOpSame.j0 kq t218 t219 x37_5 t220 t221 t222 = some r) ∧ Aside0 (kq ≤ k) ∧ Aside0 (wc.heap[gb223]? = some (.cells #[.int .i64 t220, .int .i64 t221, .string t222] 60 (0, 0))) ∧ Aside0 (Below w.heap.size w wc))
  case first =>
   have H := HC6.out
   clear HC6
   by_cases c10 : (t218.size : Int) > 64
   ·rw [if_pos c10] at H
    have c10b0 : decide (64 < (t218.size : Int)) = true := decide_eq_true c10
    have c10b1 : decide (64 < t218.size) = true := decide_eq_true (by omega)
    clear c10
    (first | rw [c10b0] | (simp only [i64_w, i32_w]; rw [c10b0]) | skip)
    have H' := am H
    clear H
    go_wp2
    go_meet
    case rel => exact ⟨_, (true), (by first | rfl | (simp; done) | (simp [*]; done)), H', ⟨by first | omega | exact Nat.le_refl _⟩, ⟨by (with_reducible repeat (first | apply kdn | apply kdr | apply kal)); refine blk_put (cs := #[.int .i64 t220, .int .i64 t221, .string (⟨#[]⟩ : ByteArray)]) ?_ 2 _ rfl; (with_reducible repeat (first | apply kdn | apply kdr | apply kal)); refine blk_put (cs := #[.int .i64 t220, .int .i64 0, .string (⟨#[]⟩ : ByteArray)]) ?_ 1 _ rfl; (with_reducible repeat (first | apply kdn | apply kdr | apply kal)); refine blk_put (cs := #[.int .i64 0, .int .i64 0, .string (⟨#[]⟩ : ByteArray)]) ?_ 0 _ rfl; (with_reducible repeat (first | apply kdn | apply kdr | apply kal)); exact BK223.out⟩, ⟨by repeat (first | (with_reducible first | exact HB.out | apply bal | apply pdn | apply bd1 | refine bst ?_ GE223.out) | exact HB.out)⟩⟩
   ·rw [if_neg c10] at H
    have c10b0 : decide (64 < (t218.size : Int)) = false := decide_eq_false c10
    have c10b1 : decide (64 < t218.size) = false := decide_eq_false (by omega)
    clear c10
    (first | rw [c10b0] | (simp only [i64_w, i32_w]; rw [c10b0]) | skip)
    have H' := am H
    clear H
    have hcz11_0 : w8.cell? ⟨gb223, 0, none⟩ = some (.int .i64 0) := (kce BK223.out 0).trans rfl
    have hcz11_1 : w8.cell? ⟨gb223, 1, none⟩ = some (.int .i64 0) := (kce BK223.out 1).trans rfl
    have hcz11_2 : w8.cell? ⟨gb223, 2, none⟩ = some (.string (⟨#[]⟩ : ByteArray)) := (kce BK223.out 2).trans rfl
    have hfz11_0 := kfr BK223.out 0
    have hfz11_1 := kfr BK223.out 1
    have hfz11_2 := kfr BK223.out 2
    go_wp2
    go_meet
    case rel => exact ⟨_, (decide ((t222.size : Int) > 64)), (by first | rfl | (simp; done) | (simp [*]; done)), H', ⟨by first | omega | exact Nat.le_refl _⟩, ⟨by (with_reducible repeat (first | apply kdn | apply kdr | apply kal)); refine blk_put (cs := #[.int .i64 t220, .int .i64 t221, .string (⟨#[]⟩ : ByteArray)]) ?_ 2 _ rfl; (with_reducible repeat (first | apply kdn | apply kdr | apply kal)); refine blk_put (cs := #[.int .i64 t220, .int .i64 0, .string (⟨#[]⟩ : ByteArray)]) ?_ 1 _ rfl; (with_reducible repeat (first | apply kdn | apply kdr | apply kal)); refine blk_put (cs := #[.int .i64 0, .int .i64 0, .string (⟨#[]⟩ : ByteArray)]) ?_ 0 _ rfl; (with_reducible repeat (first | apply kdn | apply kdr | apply kal)); exact BK223.out⟩, ⟨by repeat (first | (with_reducible first | exact HB.out | apply bal | apply pdn | apply bd1 | refine bst ?_ GE223.out) | exact HB.out)⟩⟩
  case rest =>
   clear HC6
   obtain ⟨kq, x37_5, rfl, HA, HJ5, BK223, HB⟩ := hcut
   cases kq with
   | zero => exact absurd HA.out (by simp [laws_FnOpSame.j0])
   | succ kj5 =>
    have H := HA.out
    clear HA
    simp only [laws_FnOpSame.j0] at H
    by_cases c12 : x37_5 = true
    ·subst c12
     have H1 : (some true) = some r := by rw [if_pos rfl] at H; exact H
     clear H
     have H := H1
     clear H1
     obtain rfl := Option.some.inj H
     go_wp2
     go_ret
     exact ⟨by first | rfl | (simp [errW_none, errW_some] <;> rfl) | (simp [*, errW_none, errW_some] <;> rfl), by repeat (first | (with_reducible first | exact HB.out | apply bal | apply pdn | apply bd1 | refine bst ?_ GE223.out) | exact HB.out)⟩
    ·replace c12 := Bool.eq_false_iff.mpr c12
     subst c12
     have H1 : (if t219 = true then (laws_FnOpSame.j1 kj5 t218 t219 t220 t221 t222) else (laws_FnOpSame.j1 kj5 (⟨#[]⟩ : ByteArray) t219 t220 t221 t222)) = some r := by rw [if_neg (show ¬ (false = true) by decide)] at H; exact H
     clear H
     have H := H1
     clear H1
     have HC13 := am H
     clear H
     go_upto_if 39 with (fail)
     go_cut [5] (fun v5 wc => ∃ (kq : Nat) (x5_12 : ByteArray), v5 = .string x5_12 ∧ Aside0 (laws_FnOpSame.j1 kq x5_12 t219 t220 t221 t222 = some r) ∧ Aside0 (kq ≤ kj5) ∧ Aside0 (wc.heap[gb223]? = some (.cells #[.int .i64 t220, .int .i64 t221, .string t222] 60 (0, 0))) ∧ Aside0 (Below w.heap.size w wc))
     case first =>
      have H := HC13.out
      clear HC13
      by_cases c14 : t219 = true
      ·subst c14
       have H1 : (laws_FnOpSame.j1 kj5 t218 true t220 t221 t222) = some r := by rw [if_pos rfl] at H; exact H
       clear H
       have H := H1
       clear H1
       have H' := am H
       clear H
       go_wp2
       go_meet
       case rel => exact ⟨_, (t218), (by first | rfl | (simp; done) | (simp [*]; done)), H', ⟨by have := HJ5.out; first | omega | exact Nat.le_refl _⟩, ⟨by (with_reducible repeat (first | apply kdn | apply kdr | apply kal)); exact BK223.out⟩, ⟨by repeat (first | (with_reducible first | exact HB.out | apply bal | apply pdn | apply bd1 | refine bst ?_ GE223.out) | exact HB.out)⟩⟩
      ·replace c14 := Bool.eq_false_iff.mpr c14
       subst c14
       have H1 : (laws_FnOpSame.j1 kj5 (⟨#[]⟩ : ByteArray) false t220 t221 t222) = some r := by rw [if_neg (show ¬ (false = true) by decide)] at H; exact H
       clear H
       have H := H1
       clear H1
       have H' := am H
       clear H
       go_wp2
       go_meet
       case rel => exact ⟨_, ((⟨#[]⟩ : ByteArray)), (by first | rfl | (simp; done) | (simp [*]; done)), H', ⟨by have := HJ5.out; first | omega | exact Nat.le_refl _⟩, ⟨by (with_reducible repeat (first | apply kdn | apply kdr | apply kal)); exact BK223.out⟩, ⟨by repeat (first | (with_reducible first | exact HB.out | apply bal | apply pdn | apply bd1 | refine bst ?_ GE223.out) | exact HB.out)⟩⟩
     case rest =>
      clear HC13
      obtain ⟨kq, x5_12, rfl, HA, HJ12, BK223, HB⟩ := hcut
      cases kq with
      | zero => exact absurd HA.out (by simp [laws_FnOpSame.j1])
      | succ kj12 =>
       have H := HA.out
       clear HA
       simp only [laws_FnOpSame.j1] at H
       replace H := Option.bind_eq_some_iff.mp H
       obtain ⟨⟨t224, t225⟩, A150, H⟩ := H
       replace H : ((impl_ApplyOp.f kj12 x5_12 t219 2 0 t222).bind fun bt226 => ((impl_ApplyOp.f kj12 bt226.1 bt226.2 2 0 t222).bind fun bt228 => ((impl_ApplyOp.f kj12 x5_12 t219 4 0 t222).bind fun bt230 => ((impl_ApplyOp.f kj12 x5_12 t219 3 (x5_12.size : Int) t222).bind fun bt232 => ((impl_ApplyOp.f kj12 x5_12 t219 6 0 (⟨#[]⟩ : ByteArray)).bind fun bt234 => (if t224.toList = x5_12.toList then (if (t225 == t219) = true then (if bt226.1.toList = t222.toList then (if bt226.2 = true then (if bt228.1.toList = bt226.1.toList then (if bt228.2 = true then (if bt230.1.toList = bt232.1.toList then (if bt230.2 = true then (if bt232.2 = true then (if bt234.1.toList = ([] : List UInt8) then (some (!bt234.2)) else (some false)) else (some false)) else (some false)) else (some false)) else (some false)) else (some false)) else (some false)) else (some false)) else (some false)) else (some false))))))) = some r := H
       have A15 := am A150
       clear A150
       replace H := Option.bind_eq_some_iff.mp H
       obtain ⟨⟨t226, t227⟩, A160, H⟩ := H
       replace H : ((impl_ApplyOp.f kj12 t226 t227 2 0 t222).bind fun bt228 => ((impl_ApplyOp.f kj12 x5_12 t219 4 0 t222).bind fun bt230 => ((impl_ApplyOp.f kj12 x5_12 t219 3 (x5_12.size : Int) t222).bind fun bt232 => ((impl_ApplyOp.f kj12 x5_12 t219 6 0 (⟨#[]⟩ : ByteArray)).bind fun bt234 => (if t224.toList = x5_12.toList then (if (t225 == t219) = true then (if t226.toList = t222.toList then (if t227 = true then (if bt228.1.toList = t226.toList then (if bt228.2 = true then (if bt230.1.toList = bt232.1.toList then (if bt230.2 = true then (if bt232.2 = true then (if bt234.1.toList = ([] : List UInt8) then (some (!bt234.2)) else (some false)) else (some false)) else (some false)) else (some false)) else (some false)) else (some false)) else (some false)) else (some false)) else (some false)) else (some false)))))) = some r := H
       have A16 := am A160
       clear A160
       replace H := Option.bind_eq_some_iff.mp H
       obtain ⟨⟨t228, t229⟩, A170, H⟩ := H
       replace H : ((impl_ApplyOp.f kj12 x5_12 t219 4 0 t222).bind fun bt230 => ((impl_ApplyOp.f kj12 x5_12 t219 3 (x5_12.size : Int) t222).bind fun bt232 => ((impl_ApplyOp.f kj12 x5_12 t219 6 0 (⟨#[]⟩ : ByteArray)).bind fun bt234 => (if t224.toList = x5_12.toList then (if (t225 == t219) = true then (if t226.toList = t222.toList then (if t227 = true then (if t228.toList = t226.toList then (if t229 = true then (if bt230.1.toList = bt232.1.toList then (if bt230.2 = true then (if bt232.2 = true then (if bt234.1.toList = ([] : List UInt8) then (some (!bt234.2)) else (some false)) else (some false)) else (some false)) else (some false)) else (some false)) else (some false)) else (some false)) else (some false)) else (some false)) else (some false))))) = some r := H
       have A17 := am A170
       clear A170
       replace H := Option.bind_eq_some_iff.mp H
       obtain ⟨⟨t230, t231⟩, A180, H⟩ := H
       replace H : ((impl_ApplyOp.f kj12 x5_12 t219 3 (x5_12.size : Int) t222).bind fun bt232 => ((impl_ApplyOp.f kj12 x5_12 t219 6 0 (⟨#[]⟩ : ByteArray)).bind fun bt234 => (if t224.toList = x5_12.toList then (if (t225 == t219) = true then (if t226.toList = t222.toList then (if t227 = true then (if t228.toList = t226.toList then (if t229 = true then (if t230.toList = bt232.1.toList then (if t231 = true then (if bt232.2 = true then (if bt234.1.toList = ([] : List UInt8) then (some (!bt234.2)) else (some false)) else (some false)) else (some false)) else (some false)) else (some false)) else (some false)) else (some false)) else (some false)) else (some false)) else (some false)))) = some r := H
       have A18 := am A180
       clear A180
       replace H := Option.bind_eq_some_iff.mp H
       obtain ⟨⟨t232, t233⟩, A190, H⟩ := H
       replace H : ((impl_ApplyOp.f kj12 x5_12 t219 6 0 (⟨#[]⟩ : ByteArray)).bind fun bt234 => (if t224.toList = x5_12.toList then (if (t225 == t219) = true then (if t226.toList = t222.toList then (if t227 = true then (if t228.toList = t226.toList then (if t229 = true then (if t230.toList = t232.toList then (if t231 = true then (if t233 = true then (if bt234.1.toList = ([] : List UInt8) then (some (!bt234.2)) else (some false)) else (some false)) else (some false)) else (some false)) else (some false)) else (some false)) else (some false)) else (some false)) else (some false)) else (some false))) = some r := H
       have A19 := am A190
       clear A190
       replace H := Option.bind_eq_some_iff.mp H
       obtain ⟨⟨t234, t235⟩, A200, H⟩ := H
       replace H : (if t224.toList = x5_12.toList then (if (t225 == t219) = true then (if t226.toList = t222.toList then (if t227 = true then (if t228.toList = t226.toList then (if t229 = true then (if t230.toList = t232.toList then (if t231 = true then (if t233 = true then (if t234.toList = ([] : List UInt8) then (some (!t235)) else (some false)) else (some false)) else (some false)) else (some false)) else (some false)) else (some false)) else (some false)) else (some false)) else (some false)) else (some false)) = some r := H
       have A20 := am A200
       clear A200
       by_cases c21 : t224.toList = x5_12.toList
       ·rw [if_pos c21] at H
        have c21b0 : (t224.toList == x5_12.toList) = true := beq_iff_eq.mpr c21
        have c21b1 : (t224.toList != x5_12.toList) = false := bne_eq_false_iff_eq.mpr c21
        clear c21
        by_cases c22 : (t225 == t219) = true
        ·rw [if_pos c22] at H
         have c22b0 : (t225 == t219) = true := c22
         (try (have c22b1 : decide (t225 = t219) = true := by simpa using c22))
         (try (have c22b2 : (t225 == t219) = true := by simpa using c22))
         clear c22
         by_cases c23 : t226.toList = t222.toList
         ·rw [if_pos c23] at H
          have c23b0 : (t226.toList == t222.toList) = true := beq_iff_eq.mpr c23
          have c23b1 : (t226.toList != t222.toList) = false := bne_eq_false_iff_eq.mpr c23
          clear c23
          by_cases c24 : t227 = true
          ·subst c24
           have H1 : (if t228.toList = t226.toList then (if t229 = true then (if t230.toList = t232.toList then (if t231 = true then (if t233 = true then (if t234.toList = ([] : List UInt8) then (some (!t235)) else (some false)) else (some false)) else (some false)) else (some false)) else (some false)) else (some false)) = some r := by rw [if_pos rfl] at H; exact H
           clear H
           have H := H1
           clear H1
           by_cases c25 : t228.toList = t226.toList
           ·rw [if_pos c25] at H
            have c25b0 : (t228.toList == t226.toList) = true := beq_iff_eq.mpr c25
            have c25b1 : (t228.toList != t226.toList) = false := bne_eq_false_iff_eq.mpr c25
            clear c25
            by_cases c26 : t229 = true
            ·subst c26
             have H1 : (if t230.toList = t232.toList then (if t231 = true then (if t233 = true then (if t234.toList = ([] : List UInt8) then (some (!t235)) else (some false)) else (some false)) else (some false)) else (some false)) = some r := by rw [if_pos rfl] at H; exact H
             clear H
             have H := H1
             clear H1
             by_cases c27 : t230.toList = t232.toList
             ·rw [if_pos c27] at H
              have c27b0 : (t230.toList == t232.toList) = true := beq_iff_eq.mpr c27
              have c27b1 : (t230.toList != t232.toList) = false := bne_eq_false_iff_eq.mpr c27
              clear c27
              by_cases c28 : t231 = true
              ·subst c28
               have H1 : (if t233 = true then (if t234.toList = ([] : List UInt8) then (some (!t235)) else (some false)) else (some false)) = some r := by rw [if_pos rfl] at H; exact H
               clear H
               have H := H1
               clear H1
               by_cases c29 : t233 = true
               ·subst c29
                have H1 : (if t234.toList = ([] : List UInt8) then (some (!t235)) else (some false)) = some r := by rw [if_pos rfl] at H; exact H
                clear H
                have H := H1
                clear H1
                by_cases c30 : t234.toList = ([] : List UInt8)
                ·rw [if_pos c30] at H
                 have c30b0 : (t234.toList == ([] : List UInt8)) = true := beq_iff_eq.mpr c30
                 have c30b1 : (t234.toList != ([] : List UInt8)) = false := bne_eq_false_iff_eq.mpr c30
                 clear c30
                 obtain rfl := Option.some.inj H
                 go_wp2_with (first | ((with_reducible refine gate_callee (f := 44) rfl ?_); refine goesL_ (some 44) rfl rfl Try.func44 (by kernel_rfl) rfl #[.string x5_12, .bool t219, .agg #[.int .i64 1, .int .i64 0, .string (⟨#[]⟩ : ByteArray)]] rfl (by (try simp only [mta, mco, mni]); first | done | rfl | (simp only [lnd, lnt]; rfl)) ?_; (with_reducible refine (impl_ApplyOp.calls kj12 x5_12 t219 1 0 (⟨#[]⟩ : ByteArray) t224 t225 _ A15.out).mono ?_); rintro e w31 ⟨rfl, hb⟩; refine ⟨_, rfl, ?_⟩; have n0_ := am (kbb (g := gb223) (o := .cells #[.int .i64 t220, .int .i64 t221, .string t222] 60 (0, 0)) (by (with_reducible repeat (first | apply kdn | apply kdr | apply kal)); exact BK223.out) hb); have n1_ := am (below_step (by repeat (first | (with_reducible first | exact HB.out | apply bal | apply pdn | apply bd1 | refine bst ?_ GE223.out) | exact HB.out)) hb); clear BK223; clear HB; have BK223 := n0_; have HB := n1_; clear n0_ n1_; (try clear hb); (try clear hb2); (try clear hk); (try clear hi); have hcz32_0 : w31.cell? ⟨gb223, 0, none⟩ = some (.int .i64 t220) := (kce BK223.out 0).trans rfl; have hcz32_1 : w31.cell? ⟨gb223, 1, none⟩ = some (.int .i64 t221) := (kce BK223.out 1).trans rfl; have hcz32_2 : w31.cell? ⟨gb223, 2, none⟩ = some (.string t222) := (kce BK223.out 2).trans rfl; have hfz32_0 := kfr BK223.out 0; have hfz32_1 := kfr BK223.out 1; have hfz32_2 := kfr BK223.out 2) | ((with_reducible refine gate_callee (f := 44) rfl ?_); refine goesL_ (some 53) rfl rfl Try.func44 (by kernel_rfl) rfl #[.string x5_12, .bool t219, .agg #[.int .i64 2, .int .i64 0, .string t222]] rfl (by (try simp only [mta, mco, mni]); first | done | rfl | (simp only [lnd, lnt]; rfl)) ?_; (with_reducible refine (impl_ApplyOp.calls kj12 x5_12 t219 2 0 t222 t226 true _ A16.out).mono ?_); rintro e w33 ⟨rfl, hb⟩; refine ⟨_, rfl, ?_⟩; have n0_ := am (kbb (g := gb223) (o := .cells #[.int .i64 t220, .int .i64 t221, .string t222] 60 (0, 0)) (by (with_reducible repeat (first | apply kdn | apply kdr | apply kal)); exact BK223.out) hb); have n1_ := am (below_step (by repeat (first | (with_reducible first | exact HB.out | apply bal | apply pdn | apply bd1 | refine bst ?_ GE223.out) | exact HB.out)) hb); clear BK223; clear HB; have BK223 := n0_; have HB := n1_; clear n0_ n1_; (try clear hb); (try clear hb2); (try clear hk); (try clear hi); have hcz34_0 : w33.cell? ⟨gb223, 0, none⟩ = some (.int .i64 t220) := (kce BK223.out 0).trans rfl; have hcz34_1 : w33.cell? ⟨gb223, 1, none⟩ = some (.int .i64 t221) := (kce BK223.out 1).trans rfl; have hcz34_2 : w33.cell? ⟨gb223, 2, none⟩ = some (.string t222) := (kce BK223.out 2).trans rfl; have hfz34_0 := kfr BK223.out 0; have hfz34_1 := kfr BK223.out 1; have hfz34_2 := kfr BK223.out 2) | ((with_reducible refine gate_callee (f := 44) rfl ?_); refine goesL_ (some 62) rfl rfl Try.func44 (by kernel_rfl) rfl #[.string t226, .bool true, .agg #[.int .i64 2, .int .i64 0, .string t222]] rfl (by (try simp only [mta, mco, mni]); first | done | rfl | (simp only [lnd, lnt]; rfl)) ?_; (with_reducible refine (impl_ApplyOp.calls kj12 t226 true 2 0 t222 t228 true _ A17.out).mono ?_); rintro e w35 ⟨rfl, hb⟩; refine ⟨_, rfl, ?_⟩; have n0_ := am (kbb (g := gb223) (o := .cells #[.int .i64 t220, .int .i64 t221, .string t222] 60 (0, 0)) (by (with_reducible repeat (first | apply kdn | apply kdr | apply kal)); exact BK223.out) hb); have n1_ := am (below_step (by repeat (first | (with_reducible first | exact HB.out | apply bal | apply pdn | apply bd1 | refine bst ?_ GE223.out) | exact HB.out)) hb); clear BK223; clear HB; have BK223 := n0_; have HB := n1_; clear n0_ n1_; (try clear hb); (try clear hb2); (try clear hk); (try clear hi); have hcz36_0 : w35.cell? ⟨gb223, 0, none⟩ = some (.int .i64 t220) := (kce BK223.out 0).trans rfl; have hcz36_1 : w35.cell? ⟨gb223, 1, none⟩ = some (.int .i64 t221) := (kce BK223.out 1).trans rfl; have hcz36_2 : w35.cell? ⟨gb223, 2, none⟩ = some (.string t222) := (kce BK223.out 2).trans rfl; have hfz36_0 := kfr BK223.out 0; have hfz36_1 := kfr BK223.out 1; have hfz36_2 := kfr BK223.out 2) | ((with_reducible refine gate_callee (f := 44) rfl ?_); refine goesL_ (some 71) rfl rfl Try.func44 (by kernel_rfl) rfl #[.string x5_12, .bool t219, .agg #[.int .i64 4, .int .i64 0, .string t222]] rfl (by (try simp only [mta, mco, mni]); first | done | rfl | (simp only [lnd, lnt]; rfl)) ?_; (with_reducible refine (impl_ApplyOp.calls kj12 x5_12 t219 4 0 t222 t230 true _ A18.out).mono ?_); rintro e w37 ⟨rfl, hb⟩; refine ⟨_, rfl, ?_⟩; have n0_ := am (kbb (g := gb223) (o := .cells #[.int .i64 t220, .int .i64 t221, .string t222] 60 (0, 0)) (by (with_reducible repeat (first | apply kdn | apply kdr | apply kal)); exact BK223.out) hb); have n1_ := am (below_step (by repeat (first | (with_reducible first | exact HB.out | apply bal | apply pdn | apply bd1 | refine bst ?_ GE223.out) | exact HB.out)) hb); clear BK223; clear HB; have BK223 := n0_; have HB := n1_; clear n0_ n1_; (try clear hb); (try clear hb2); (try clear hk); (try clear hi); have hcz38_0 : w37.cell? ⟨gb223, 0, none⟩ = some (.int .i64 t220) := (kce BK223.out 0).trans rfl; have hcz38_1 : w37.cell? ⟨gb223, 1, none⟩ = some (.int .i64 t221) := (kce BK223.out 1).trans rfl; have hcz38_2 : w37.cell? ⟨gb223, 2, none⟩ = some (.string t222) := (kce BK223.out 2).trans rfl; have hfz38_0 := kfr BK223.out 0; have hfz38_1 := kfr BK223.out 1; have hfz38_2 := kfr BK223.out 2) | ((with_reducible refine gate_callee (f := 44) rfl ?_); refine goesL_ (some 82) rfl rfl Try.func44 (by kernel_rfl) rfl #[.string x5_12, .bool t219, .agg #[.int .i64 3, .int .i64 (x5_12.size : Int), .string t222]] rfl (by (try simp only [mta, mco, mni]); first | done | rfl | (simp only [lnd, lnt]; rfl)) ?_; (with_reducible refine (impl_ApplyOp.calls kj12 x5_12 t219 3 (x5_12.size : Int) t222 t232 true _ A19.out).mono ?_); rintro e w39 ⟨rfl, hb⟩; refine ⟨_, rfl, ?_⟩; have n0_ := am (kbb (g := gb223) (o := .cells #[.int .i64 t220, .int .i64 t221, .string t222] 60 (0, 0)) (by (with_reducible repeat (first | apply kdn | apply kdr | apply kal)); exact BK223.out) hb); have n1_ := am (below_step (by repeat (first | (with_reducible first | exact HB.out | apply bal | apply pdn | apply bd1 | refine bst ?_ GE223.out) | exact HB.out)) hb); clear BK223; clear HB; have BK223 := n0_; have HB := n1_; clear n0_ n1_; (try clear hb); (try clear hb2); (try clear hk); (try clear hi)) | ((with_reducible refine gate_callee (f := 44) rfl ?_); refine goesL_ (some 89) rfl rfl Try.func44 (by kernel_rfl) rfl #[.string x5_12, .bool t219, .agg #[.int .i64 6, .int .i64 0, .string (⟨#[]⟩ : ByteArray)]] rfl (by (try simp only [mta, mco, mni]); first | done | rfl | (simp only [lnd, lnt]; rfl)) ?_; (with_reducible refine (impl_ApplyOp.calls kj12 x5_12 t219 6 0 (⟨#[]⟩ : ByteArray) t234 t235 _ A20.out).mono ?_); rintro e w40 ⟨rfl, hb⟩; refine ⟨_, rfl, ?_⟩; have n0_ := am (kbb (g := gb223) (o := .cells #[.int .i64 t220, .int .i64 t221, .string t222] 60 (0, 0)) (by (with_reducible repeat (first | apply kdn | apply kdr | apply kal)); exact BK223.out) hb); have n1_ := am (below_step (by repeat (first | (with_reducible first | exact HB.out | apply bal | apply pdn | apply bd1 | refine bst ?_ GE223.out) | exact HB.out)) hb); clear BK223; clear HB; have BK223 := n0_; have HB := n1_; clear n0_ n1_; (try clear hb); (try clear hb2); (try clear hk); (try clear hi); have hcz41_0 : w40.cell? ⟨gb223, 0, none⟩ = some (.int .i64 t220) := (kce BK223.out 0).trans rfl; have hcz41_1 : w40.cell? ⟨gb223, 1, none⟩ = some (.int .i64 t221) := (kce BK223.out 1).trans rfl; have hcz41_2 : w40.cell? ⟨gb223, 2, none⟩ = some (.string t222) := (kce BK223.out 2).trans rfl; have hfz41_0 := kfr BK223.out 0; have hfz41_1 := kfr BK223.out 1; have hfz41_2 := kfr BK223.out 2))
                 go_ret
                 exact ⟨by first | rfl | (simp [errW_none, errW_some] <;> rfl) | (simp [*, errW_none, errW_some] <;> rfl), by repeat (first | (with_reducible first | exact HB.out | apply bal | apply pdn | apply bd1 | refine bst ?_ GE223.out) | exact HB.out)⟩
                ·rw [if_neg c30] at H
                 have c30b0 : (t234.toList == ([] : List UInt8)) = false := beq_eq_false_iff_ne.mpr c30
                 have c30b1 : (t234.toList != ([] : List UInt8)) = true := bne_iff_ne.mpr c30
                 exact absurd ((Option.some.inj H).trans hT.out) (by decide)
               ·replace c29 := Bool.eq_false_iff.mpr c29
                subst c29
                have H1 : (some false) = some r := by rw [if_neg (show ¬ (false = true) by decide)] at H; exact H
                clear H
                have H := H1
                clear H1
                exact absurd ((Option.some.inj H).trans hT.out) (by decide)
              ·replace c28 := Bool.eq_false_iff.mpr c28
               subst c28
               have H1 : (some false) = some r := by rw [if_neg (show ¬ (false = true) by decide)] at H; exact H
               clear H
               have H := H1
               clear H1
               exact absurd ((Option.some.inj H).trans hT.out) (by decide)
             ·rw [if_neg c27] at H
              have c27b0 : (t230.toList == t232.toList) = false := beq_eq_false_iff_ne.mpr c27
              have c27b1 : (t230.toList != t232.toList) = true := bne_iff_ne.mpr c27
              exact absurd ((Option.some.inj H).trans hT.out) (by decide)
            ·replace c26 := Bool.eq_false_iff.mpr c26
             subst c26
             have H1 : (some false) = some r := by rw [if_neg (show ¬ (false = true) by decide)] at H; exact H
             clear H
             have H := H1
             clear H1
             exact absurd ((Option.some.inj H).trans hT.out) (by decide)
           ·rw [if_neg c25] at H
            have c25b0 : (t228.toList == t226.toList) = false := beq_eq_false_iff_ne.mpr c25
            have c25b1 : (t228.toList != t226.toList) = true := bne_iff_ne.mpr c25
            exact absurd ((Option.some.inj H).trans hT.out) (by decide)
          ·replace c24 := Bool.eq_false_iff.mpr c24
           subst c24
           have H1 : (some false) = some r := by rw [if_neg (show ¬ (false = true) by decide)] at H; exact H
           clear H
           have H := H1
           clear H1
           exact absurd ((Option.some.inj H).trans hT.out) (by decide)
         ·rw [if_neg c23] at H
          have c23b0 : (t226.toList == t222.toList) = false := beq_eq_false_iff_ne.mpr c23
          have c23b1 : (t226.toList != t222.toList) = true := bne_iff_ne.mpr c23
          exact absurd ((Option.some.inj H).trans hT.out) (by decide)
        ·rw [if_neg c22] at H
         have c22b0 : (t225 == t219) = false := by simpa using c22
         (try (have c22b1 : decide (t225 = t219) = false := by simpa using c22))
         (try (have c22b2 : (t225 == t219) = false := by simpa using c22))
         (try (have c22b3 : ¬ (t225 = t219) := by simpa using c22))
         clear c22
         exact absurd ((Option.some.inj H).trans hT.out) (by decide)
       ·rw [if_neg c21] at H
        have c21b0 : (t224.toList == x5_12.toList) = false := beq_eq_false_iff_ne.mpr c21
        have c21b1 : (t224.toList != x5_12.toList) = true := bne_iff_ne.mpr c21
        exact absurd ((Option.some.inj H).trans hT.out) (by decide)

/-- THE ONE PURE STATEMENT of laws_FnOpSame: yours. -/
def laws_FnOpSame.Pure : Prop := ∀ (l0 : List Int) (l1 : List Int), l0.length ≤ maxLen → l0.length * 1 ≤ 140737488351232 → (∀ x ∈ l0, (Lit.int .u8 x).wf = true) → l1.length ≤ maxLen → l1.length * 1 ≤ 140737488351232 → (∀ x ∈ l1, (Lit.int .u8 x).wf = true) → ∃ k, laws_FnOpSame.f k l0 l1 = some true
theorem laws_FnOpSame.walk (P : laws_FnOpSame.Pure) (a0 : Option Addr) (len0 cap0 : Nat) (z0 : List Int) (a1 : Option Addr) (len1 cap1 : Nat) (z1 : List Int) (w : World) (w0 : (a0 = none ∧ len0 = 0 ∧ cap0 = 0 ∧ z0 = []) ∨ ∃ x, a0 = some x ∧ len0 ≤ cap0 ∧ cap0 ≤ maxLen ∧ z0.length = cap0 ∧ (∀ i, i < z0.length → w.cell? (x.add i) = some (.int .u8 (z0.getD i 0))) ∧ ∀ n ∈ z0, (Lit.int .u8 n).wf = true) (y0 : len0 * 1 ≤ 140737488351232) (w1 : (a1 = none ∧ len1 = 0 ∧ cap1 = 0 ∧ z1 = []) ∨ ∃ x, a1 = some x ∧ len1 ≤ cap1 ∧ cap1 ≤ maxLen ∧ z1.length = cap1 ∧ (∀ i, i < z1.length → w.cell? (x.add i) = some (.int .u8 (z1.getD i 0))) ∧ ∀ n ∈ z1, (Lit.int .u8 n).wf = true) (y1 : len1 * 1 ≤ 140737488351232) :
  Calls Try.prog 13 #[.slice a0 len0 cap0, .slice a1 len1 cap1] w fun e w' => e = .returned (.bool true) ∧ Below w.heap.size w w' := by
 obtain ⟨l0, rfl, hr0, hm0, hw0, hc0⟩ := ReadsInt.ofRowC w0
 obtain ⟨l1, rfl, hr1, hm1, hw1, hc1⟩ := ReadsInt.ofRowC w1
 obtain ⟨k, h⟩ := P l0 l1 hm0 y0 hw0 hm1 y1 hw1
 refine (laws_FnOpSame.calls k _ _ l0 _ _ l1 true w (Kd.C_of_reads (d := (0 : Int)) (h1 := fun _ => rfl) hr0) hc0 (Kd.C_of_reads (d := (0 : Int)) (h1 := fun _ => rfl) hr1) hc1 rfl h).mono ?_
 rintro e w' ⟨rfl, hd⟩
 exact ⟨rfl, hd⟩

end Go.Proofs.Ythphhklbliambaa.MFnOpSame
