-- Written by a program of this session (wip/tools/myprint.py) over the kit's print: it is not the kit's print.
import Derived.Test.YtmpakjgbbjkacaaExtra
import Derived.Test.YtmpakjgbbjkacaaMFnExactWideBodyx0
import Derived.Test.YtmpakjgbbjkacaaMFnExactWideBodyx1
import Derived.Test.YtmpakjgbbjkacaaMFnExactWideBodyx3
import Derived.Test.YtmpakjgbbjkacaaMFnExactWideBodyx5
namespace Go.Proofs.Ytmpakjgbbjkacaa.MFnExactWideBody
open Go.RowKit Go.Proofs.YtmpakjgbbjkacaaW.PrintWords Go.Proofs.YtmpakjgbbjkacaaW.PrintLast Go.Proofs.YtmpakjgbbjkacaaW.PrintMore
open List renaming setIfInBounds_toArray → sit, set_cons_zero → scz, set_cons_succ → scs, map_toArray → mta, map_cons → mco, map_nil → mni, length_drop → lnd, length_take → lnt
attribute [local go_sem] max2_int min2_int max_two min_two max_three min_three max_four min_four   -- for this text's walks alone
set_option linter.unusedVariables false
set_option linter.unusedSimpArgs false

/-! ### laws_FnExactWideBody: function 3 -/
def laws_FnExactWideBody.j0 : Nat → Bool → Int → Int → Int → Int → List ByteArray → Int → Int → Int → Int → List ByteArray → Option (Bool)
 | 0, _, _, _, _, _, _, _, _, _, _, _ => none
 | k + 1, x34, x167000, x167001, x167002, x167003, x167004, x185000, x185001, x185002, x185003, x185004 => if x34 = true then (some false) else ((laws_toWide.f k x167000 x167001 x167002 x167003 x167004).bind fun bt187 => ((laws_eqWide.f k x185000 x185001 x185002 x185003 x185004 bt187.1 bt187.2.1 bt187.2.2.1 bt187.2.2.2.1 bt187.2.2.2.2).bind fun t194 => (if t194 = true then (some true) else (some false))))
def laws_FnExactWideBody.f (k : Nat) (a0_0 : Int) (a0_1 : Int) (a0_2 : Int) (a0_3 : Int) (l0_4 : List ByteArray) : Option (Bool) := (laws_szWide.f k a0_0 a0_1 a0_2 a0_3 l0_4 1048576).bind fun t167 => (if t167 < 0 then (some true) else ((laws_toWide.f k a0_0 a0_1 a0_2 a0_3 l0_4).bind fun bt168 => ((spec_WideBody.f k bt168.1 bt168.2.1 bt168.2.2.1 bt168.2.2.2.1 bt168.2.2.2.2).bind fun bt175 => ((laws_toWide.f k a0_0 a0_1 a0_2 a0_3 l0_4).bind fun bt177 => ((impl_WideBody.f bt177.1 bt177.2.1 bt177.2.2.1 bt177.2.2.2.1 bt177.2.2.2.2).bind fun bt185 => (if bt185.1.toList = bt175.1.toList then (laws_FnExactWideBody.j0 k (bt185.2 != bt175.2) a0_0 a0_1 a0_2 a0_3 l0_4 bt177.1 bt177.2.1 bt177.2.2.1 bt177.2.2.2.1 bt177.2.2.2.2) else (laws_FnExactWideBody.j0 k true a0_0 a0_1 a0_2 a0_3 l0_4 bt177.1 bt177.2.1 bt177.2.2.1 bt177.2.2.2.1 bt177.2.2.2.2)))))))
theorem laws_FnExactWideBody.mono_l : ∀ k, (∀ y0 y1 y2 y3 y4 y5 y6 y7 y8 y9 y10, LeO (laws_FnExactWideBody.j0 k y0 y1 y2 y3 y4 y5 y6 y7 y8 y9 y10) (laws_FnExactWideBody.j0 (k + 1) y0 y1 y2 y3 y4 y5 y6 y7 y8 y9 y10))
 | 0 => fun _ _ _ _ _ _ _ _ _ _ _ r h => by simp [laws_FnExactWideBody.j0] at h
 | k + 1 => by
  have ih0 := laws_FnExactWideBody.mono_l k
  ·intro y0 y1 y2 y3 y4 y5 y6 y7 y8 y9 y10
   unfold laws_FnExactWideBody.j0
   repeat' first
   | (with_reducible exact ih0 _ _ _ _ _ _ _ _ _ _ _)
   | (with_reducible exact laws_eqWide.mono _ _ _ _ _ _ _ _ _ _ _)
   | (with_reducible exact laws_szWide.mono _ _ _ _ _ _ _)
   | (with_reducible exact laws_toWide.mono _ _ _ _ _ _)
   | (with_reducible exact spec_WideBody.mono _ _ _ _ _ _)
   | (with_reducible exact LeO.refl _)
   | (with_reducible exact LeO.none _)
   | (with_reducible refine LeO.ite ?_ ?_)
   | (with_reducible refine LeO.bind ?_ (fun _ => ?_))
   | exact ih0 _ _ _ _ _ _ _ _ _ _ _
   | exact laws_eqWide.mono _ _ _ _ _ _ _ _ _ _ _
   | exact laws_szWide.mono _ _ _ _ _ _ _
   | exact laws_toWide.mono _ _ _ _ _ _
   | exact spec_WideBody.mono _ _ _ _ _ _
   | exact LeO.none _
   | refine LeO.ite ?_ ?_
   | refine LeO.bind ?_ (fun _ => ?_)
theorem laws_FnExactWideBody.mono : ∀ a0 a1 a2 a3 a4 k, LeO (laws_FnExactWideBody.f k a0 a1 a2 a3 a4) (laws_FnExactWideBody.f (k + 1) a0 a1 a2 a3 a4) := by
 intro a0 a1 a2 a3 a4 k
 have ih0 := laws_FnExactWideBody.mono_l k
 unfold laws_FnExactWideBody.f
 repeat' first
   | (with_reducible exact ih0 _ _ _ _ _ _ _ _ _ _ _)
   | (with_reducible exact laws_eqWide.mono _ _ _ _ _ _ _ _ _ _ _)
   | (with_reducible exact laws_szWide.mono _ _ _ _ _ _ _)
   | (with_reducible exact laws_toWide.mono _ _ _ _ _ _)
   | (with_reducible exact spec_WideBody.mono _ _ _ _ _ _)
   | (with_reducible exact LeO.refl _)
   | (with_reducible exact LeO.none _)
   | (with_reducible refine LeO.ite ?_ ?_)
   | (with_reducible refine LeO.bind ?_ (fun _ => ?_))
   | exact ih0 _ _ _ _ _ _ _ _ _ _ _
   | exact laws_eqWide.mono _ _ _ _ _ _ _ _ _ _ _
   | exact laws_szWide.mono _ _ _ _ _ _ _
   | exact laws_toWide.mono _ _ _ _ _ _
   | exact spec_WideBody.mono _ _ _ _ _ _
   | exact LeO.none _
   | refine LeO.ite ?_ ?_
   | refine LeO.bind ?_ (fun _ => ?_)
set_option maxHeartbeats 8000000 in
set_option maxRecDepth 100000 in
theorem laws_FnExactWideBody.calls (k : Nat) (a0_0 : Int) (a0_1 : Int) (a0_2 : Int) (a0_3 : Int) (A0_4 : Option Addr) (c0_4 : Nat) (l0_4 : List ByteArray) (r : Bool) (w : World) (hr0_4 : Kd.C Kd.string w A0_4 l0_4.length l0_4) (hc0_4 : l0_4.length ≤ c0_4) (hT0 : r = true) (h : laws_FnExactWideBody.f k a0_0 a0_1 a0_2 a0_3 l0_4 = some r) :
  Calls Try.prog 3 #[.agg #[.int .i64 a0_0, .int .i64 a0_1, .int .i64 a0_2, .int .i64 a0_3, .slice A0_4 l0_4.length c0_4]] w fun e w' => e = .returned (.bool r) ∧ Below w.heap.size w w' := by
 have hT := am hT0
 clear hT0
 have hu26 := Try.underlying26
 have hu32 := Try.underlying32
 have HR0_4 := am hr0_4
 have HC0_4 := am hc0_4
 clear hr0_4 hc0_4
 have HB := am (Below.refl w.heap.size w)
 have H : ((laws_szWide.f k a0_0 a0_1 a0_2 a0_3 l0_4 1048576).bind fun t167 => (if t167 < 0 then (some true) else ((laws_toWide.f k a0_0 a0_1 a0_2 a0_3 l0_4).bind fun bt168 => ((spec_WideBody.f k bt168.1 bt168.2.1 bt168.2.2.1 bt168.2.2.2.1 bt168.2.2.2.2).bind fun bt175 => ((laws_toWide.f k a0_0 a0_1 a0_2 a0_3 l0_4).bind fun bt177 => ((impl_WideBody.f bt177.1 bt177.2.1 bt177.2.2.1 bt177.2.2.2.1 bt177.2.2.2.2).bind fun bt185 => (if bt185.1.toList = bt175.1.toList then (laws_FnExactWideBody.j0 k (bt185.2 != bt175.2) a0_0 a0_1 a0_2 a0_3 l0_4 bt177.1 bt177.2.1 bt177.2.2.1 bt177.2.2.2.1 bt177.2.2.2.2) else (laws_FnExactWideBody.j0 k true a0_0 a0_1 a0_2 a0_3 l0_4 bt177.1 bt177.2.1 bt177.2.2.1 bt177.2.2.2.1 bt177.2.2.2.2)))))))) = some r := h
 clear h
 replace H := Option.bind_eq_some_iff.mp H
 obtain ⟨t167, A20, H⟩ := H
 replace H : (if t167 < 0 then (some true) else ((laws_toWide.f k a0_0 a0_1 a0_2 a0_3 l0_4).bind fun bt168 => ((spec_WideBody.f k bt168.1 bt168.2.1 bt168.2.2.1 bt168.2.2.2.1 bt168.2.2.2.2).bind fun bt175 => ((laws_toWide.f k a0_0 a0_1 a0_2 a0_3 l0_4).bind fun bt177 => ((impl_WideBody.f bt177.1 bt177.2.1 bt177.2.2.1 bt177.2.2.2.1 bt177.2.2.2.2).bind fun bt185 => (if bt185.1.toList = bt175.1.toList then (laws_FnExactWideBody.j0 k (bt185.2 != bt175.2) a0_0 a0_1 a0_2 a0_3 l0_4 bt177.1 bt177.2.1 bt177.2.2.1 bt177.2.2.2.1 bt177.2.2.2.2) else (laws_FnExactWideBody.j0 k true a0_0 a0_1 a0_2 a0_3 l0_4 bt177.1 bt177.2.1 bt177.2.2.1 bt177.2.2.2.1 bt177.2.2.2.2))))))) = some r := H
 have A2 := am A20
 clear A20
 by_cases c3 : t167 < 0
 ·rw [if_pos c3] at H
  have c3b0 : decide (t167 < 0) = true := decide_eq_true c3
  clear c3
  obtain rfl := Option.some.inj H
  go_enter Try.func3, Try.ntmps3
  go_wp2_with (first | ((with_reducible refine gate_dst (N := 1) rfl ?_); refine box_event ?hg (N := 1) ?hd (cs := #[.int .i64 a0_0, .int .i64 a0_1, .int .i64 a0_2, .int .i64 a0_3, .slice A0_4 l0_4.length c0_4]) (t := 26) ?hr ?_; (case hd => rfl); (case hg => rfl); (case hr => first | (go_simp; done) | (go_simp; rfl)); intro gb166 hg w4 hbox hb; have n0_ := am (below_step (by repeat (first | (with_reducible first | exact HB.out | apply bal | apply pdn | apply bd1) | exact HB.out)) hb); have n1_ := am (hbox); have n2_ := am ((by rw [hg]; exact (below_size (by repeat (first | (with_reducible first | exact HB.out | apply bal | apply pdn | apply bd1) | exact HB.out))) : w.heap.size ≤ gb166)); have n3_ := am ((by rw [hg]; exact (below_size (by repeat (first | (with_reducible first | exact HB.out | apply bal | apply pdn | apply bd1) | exact HB.out))) : w.heap.size ≤ gb166)); clear HB; have HB := n0_; have BK166 := n1_; have GW166 := n2_; have GE166 := n3_; clear n0_ n1_ n2_ n3_; clear hb hbox hg; have hcz5_0 : w4.cell? ⟨gb166, 0, none⟩ = some (.int .i64 a0_0) := (kce BK166.out 0).trans rfl; have hcz5_1 : w4.cell? ⟨gb166, 1, none⟩ = some (.int .i64 a0_1) := (kce BK166.out 1).trans rfl; have hcz5_2 : w4.cell? ⟨gb166, 2, none⟩ = some (.int .i64 a0_2) := (kce BK166.out 2).trans rfl; have hcz5_3 : w4.cell? ⟨gb166, 3, none⟩ = some (.int .i64 a0_3) := (kce BK166.out 3).trans rfl; have hcz5_4 : w4.cell? ⟨gb166, 4, none⟩ = some (.slice A0_4 l0_4.length c0_4) := (kce BK166.out 4).trans rfl; have hfz5_0 := kfr BK166.out 0; have hfz5_1 := kfr BK166.out 1; have hfz5_2 := kfr BK166.out 2; have hfz5_3 := kfr BK166.out 3; have hfz5_4 := kfr BK166.out 4) | ((with_reducible refine gate_callee (f := 9) rfl ?_); refine goesL_ (some 11) rfl rfl Try.func9 (by kernel_rfl) rfl #[.agg #[.int .i64 a0_0, .int .i64 a0_1, .int .i64 a0_2, .int .i64 a0_3, .slice A0_4 l0_4.length c0_4], .int .i64 1048576] rfl (by (try simp only [mta, mco, mni]); first | done | rfl | (simp only [lnd, lnt]; rfl)) ?_; (with_reducible refine (laws_szWide.calls k a0_0 a0_1 a0_2 a0_3 _ _ l0_4 1048576 t167 _ ?side1 ?side2 A2.out).mono ?_); (case side1 => repeat (first | exact (Kd.C_below HR0_4.out HB.out) | (with_reducible first | apply kca | apply kcn | apply kcd))); (case side2 => exact HC0_4.out); rintro e w6 ⟨rfl, hb⟩; refine ⟨_, rfl, ?_⟩; have n0_ := am (kbb (g := gb166) (o := .cells #[.int .i64 a0_0, .int .i64 a0_1, .int .i64 a0_2, .int .i64 a0_3, .slice A0_4 l0_4.length c0_4] 26 (0, 0)) (by (with_reducible repeat (first | apply kdn | apply kdr | apply kal)); exact BK166.out) hb); have n1_ := am (below_step (by repeat (first | (with_reducible first | exact HB.out | apply bal | apply pdn | apply bd1 | refine bst ?_ GE166.out) | exact HB.out)) hb); clear BK166; clear HB; have BK166 := n0_; have HB := n1_; clear n0_ n1_; (try clear hb); (try clear hb2); (try clear hk); (try clear hi)))
  go_ret
  exact ⟨by first | rfl | (simp [errW_none, errW_some] <;> rfl) | (simp [*, errW_none, errW_some] <;> rfl), by repeat (first | (with_reducible first | exact HB.out | apply bal | apply pdn | apply bd1 | refine bst ?_ GE166.out) | exact HB.out)⟩
 ·rw [if_neg c3] at H
  have c3b0 : decide (t167 < 0) = false := decide_eq_false c3
  clear c3
  replace H := Option.bind_eq_some_iff.mp H
  obtain ⟨⟨t168, t169, t170, t171, t172⟩, A70, H⟩ := H
  replace H : ((spec_WideBody.f k t168 t169 t170 t171 t172).bind fun bt175 => ((laws_toWide.f k a0_0 a0_1 a0_2 a0_3 l0_4).bind fun bt177 => ((impl_WideBody.f bt177.1 bt177.2.1 bt177.2.2.1 bt177.2.2.2.1 bt177.2.2.2.2).bind fun bt185 => (if bt185.1.toList = bt175.1.toList then (laws_FnExactWideBody.j0 k (bt185.2 != bt175.2) a0_0 a0_1 a0_2 a0_3 l0_4 bt177.1 bt177.2.1 bt177.2.2.1 bt177.2.2.2.1 bt177.2.2.2.2) else (laws_FnExactWideBody.j0 k true a0_0 a0_1 a0_2 a0_3 l0_4 bt177.1 bt177.2.1 bt177.2.2.1 bt177.2.2.2.1 bt177.2.2.2.2))))) = some r := H
  have A7 := am A70
  clear A70
  replace H := Option.bind_eq_some_iff.mp H
  obtain ⟨⟨t175, t176⟩, A80, H⟩ := H
  replace H : ((laws_toWide.f k a0_0 a0_1 a0_2 a0_3 l0_4).bind fun bt177 => ((impl_WideBody.f bt177.1 bt177.2.1 bt177.2.2.1 bt177.2.2.2.1 bt177.2.2.2.2).bind fun bt185 => (if bt185.1.toList = t175.toList then (laws_FnExactWideBody.j0 k (bt185.2 != t176) a0_0 a0_1 a0_2 a0_3 l0_4 bt177.1 bt177.2.1 bt177.2.2.1 bt177.2.2.2.1 bt177.2.2.2.2) else (laws_FnExactWideBody.j0 k true a0_0 a0_1 a0_2 a0_3 l0_4 bt177.1 bt177.2.1 bt177.2.2.1 bt177.2.2.2.1 bt177.2.2.2.2)))) = some r := H
  have A8 := am A80
  clear A80
  replace H := Option.bind_eq_some_iff.mp H
  obtain ⟨⟨t177, t178, t179, t180, t181⟩, A90, H⟩ := H
  replace H : ((impl_WideBody.f t177 t178 t179 t180 t181).bind fun bt185 => (if bt185.1.toList = t175.toList then (laws_FnExactWideBody.j0 k (bt185.2 != t176) a0_0 a0_1 a0_2 a0_3 l0_4 t177 t178 t179 t180 t181) else (laws_FnExactWideBody.j0 k true a0_0 a0_1 a0_2 a0_3 l0_4 t177 t178 t179 t180 t181))) = some r := H
  have A9 := am A90
  clear A90
  replace H := Option.bind_eq_some_iff.mp H
  obtain ⟨⟨t185, t186⟩, A100, H⟩ := H
  replace H : (if t185.toList = t175.toList then (laws_FnExactWideBody.j0 k (t186 != t176) a0_0 a0_1 a0_2 a0_3 l0_4 t177 t178 t179 t180 t181) else (laws_FnExactWideBody.j0 k true a0_0 a0_1 a0_2 a0_3 l0_4 t177 t178 t179 t180 t181)) = some r := H
  have A10 := am A100
  clear A100
  have HC11 := am H
  clear H
  go_enter Try.func3, Try.ntmps3
  go_upto_region 8 with (first | ((with_reducible refine gate_dst (N := 1) rfl ?_); refine box_event ?hg (N := 1) ?hd (cs := #[.int .i64 a0_0, .int .i64 a0_1, .int .i64 a0_2, .int .i64 a0_3, .slice A0_4 l0_4.length c0_4]) (t := 26) ?hr ?_; (case hd => rfl); (case hg => rfl); (case hr => first | (go_simp; done) | (go_simp; rfl)); intro gb166 hg w12 hbox hb; have n0_ := am (below_step (by repeat (first | (with_reducible first | exact HB.out | apply bal | apply pdn | apply bd1) | exact HB.out)) hb); have n1_ := am (hbox); have n2_ := am ((by rw [hg]; exact (below_size (by repeat (first | (with_reducible first | exact HB.out | apply bal | apply pdn | apply bd1) | exact HB.out))) : w.heap.size ≤ gb166)); have n3_ := am ((by rw [hg]; exact (below_size (by repeat (first | (with_reducible first | exact HB.out | apply bal | apply pdn | apply bd1) | exact HB.out))) : w.heap.size ≤ gb166)); clear HB; have HB := n0_; have BK166 := n1_; have GW166 := n2_; have GE166 := n3_; clear n0_ n1_ n2_ n3_; clear hb hbox hg; have hcz13_0 : w12.cell? ⟨gb166, 0, none⟩ = some (.int .i64 a0_0) := (kce BK166.out 0).trans rfl; have hcz13_1 : w12.cell? ⟨gb166, 1, none⟩ = some (.int .i64 a0_1) := (kce BK166.out 1).trans rfl; have hcz13_2 : w12.cell? ⟨gb166, 2, none⟩ = some (.int .i64 a0_2) := (kce BK166.out 2).trans rfl; have hcz13_3 : w12.cell? ⟨gb166, 3, none⟩ = some (.int .i64 a0_3) := (kce BK166.out 3).trans rfl; have hcz13_4 : w12.cell? ⟨gb166, 4, none⟩ = some (.slice A0_4 l0_4.length c0_4) := (kce BK166.out 4).trans rfl; have hfz13_0 := kfr BK166.out 0; have hfz13_1 := kfr BK166.out 1; have hfz13_2 := kfr BK166.out 2; have hfz13_3 := kfr BK166.out 3; have hfz13_4 := kfr BK166.out 4) | ((with_reducible refine gate_callee (f := 9) rfl ?_); refine goesL_ (some 11) rfl rfl Try.func9 (by kernel_rfl) rfl #[.agg #[.int .i64 a0_0, .int .i64 a0_1, .int .i64 a0_2, .int .i64 a0_3, .slice A0_4 l0_4.length c0_4], .int .i64 1048576] rfl (by (try simp only [mta, mco, mni]); first | done | rfl | (simp only [lnd, lnt]; rfl)) ?_; (with_reducible refine (laws_szWide.calls k a0_0 a0_1 a0_2 a0_3 _ _ l0_4 1048576 t167 _ ?side1 ?side2 A2.out).mono ?_); (case side1 => repeat (first | exact (Kd.C_below HR0_4.out HB.out) | (with_reducible first | apply kca | apply kcn | apply kcd))); (case side2 => exact HC0_4.out); rintro e w14 ⟨rfl, hb⟩; refine ⟨_, rfl, ?_⟩; have n0_ := am (kbb (g := gb166) (o := .cells #[.int .i64 a0_0, .int .i64 a0_1, .int .i64 a0_2, .int .i64 a0_3, .slice A0_4 l0_4.length c0_4] 26 (0, 0)) (by (with_reducible repeat (first | apply kdn | apply kdr | apply kal)); exact BK166.out) hb); have n1_ := am (below_step (by repeat (first | (with_reducible first | exact HB.out | apply bal | apply pdn | apply bd1 | refine bst ?_ GE166.out) | exact HB.out)) hb); clear BK166; clear HB; have BK166 := n0_; have HB := n1_; clear n0_ n1_; (try clear hb); (try clear hb2); (try clear hk); (try clear hi); have hcz15_0 : w14.cell? ⟨gb166, 0, none⟩ = some (.int .i64 a0_0) := (kce BK166.out 0).trans rfl; have hcz15_1 : w14.cell? ⟨gb166, 1, none⟩ = some (.int .i64 a0_1) := (kce BK166.out 1).trans rfl; have hcz15_2 : w14.cell? ⟨gb166, 2, none⟩ = some (.int .i64 a0_2) := (kce BK166.out 2).trans rfl; have hcz15_3 : w14.cell? ⟨gb166, 3, none⟩ = some (.int .i64 a0_3) := (kce BK166.out 3).trans rfl; have hcz15_4 : w14.cell? ⟨gb166, 4, none⟩ = some (.slice A0_4 l0_4.length c0_4) := (kce BK166.out 4).trans rfl; have hfz15_0 := kfr BK166.out 0; have hfz15_1 := kfr BK166.out 1; have hfz15_2 := kfr BK166.out 2; have hfz15_3 := kfr BK166.out 3; have hfz15_4 := kfr BK166.out 4) | ((with_reducible refine gate_callee (f := 11) rfl ?_); refine goesL_ (some 16) rfl rfl Try.func11 (by kernel_rfl) rfl #[.agg #[.int .i64 a0_0, .int .i64 a0_1, .int .i64 a0_2, .int .i64 a0_3, .slice A0_4 l0_4.length c0_4]] rfl (by (try simp only [mta, mco, mni]); first | done | rfl | (simp only [lnd, lnt]; rfl)) ?_; (with_reducible refine (laws_toWide.calls k a0_0 a0_1 a0_2 a0_3 _ _ l0_4 t168 t169 t170 t171 t172 _ ?side1 ?side2 A7.out).mono ?_); (case side1 => repeat (first | exact (Kd.C_below HR0_4.out HB.out) | (with_reducible first | apply kca | apply kcn | apply kcd))); (case side2 => exact HC0_4.out); rintro e w16 ⟨v173, rfl, ho0, hb⟩; refine ⟨_, rfl, ?_⟩; have n0_ := am (Kd.R_lower ho0 (below_size (by repeat (first | (with_reducible first | exact HB.out | apply bal | apply pdn | apply bd1 | refine bst ?_ GE166.out) | exact HB.out)))); have n1_ := am (kbb (g := gb166) (o := .cells #[.int .i64 a0_0, .int .i64 a0_1, .int .i64 a0_2, .int .i64 a0_3, .slice A0_4 l0_4.length c0_4] 26 (0, 0)) (by (with_reducible repeat (first | apply kdn | apply kdr | apply kal)); exact BK166.out) hb); have n2_ := am (below_step (by repeat (first | (with_reducible first | exact HB.out | apply bal | apply pdn | apply bd1 | refine bst ?_ GE166.out) | exact HB.out)) hb); clear BK166; clear HB; have HO174 := n0_; have BK166 := n1_; have HB := n2_; clear n0_ n1_ n2_; (try clear hb); (try clear hb2); (try clear hk); (try clear hi); (try clear ho0); obtain ⟨Ao17, co17, eo17⟩ := Kd.R_slice HO174.out; subst eo17) | ((with_reducible refine gate_callee (f := 10) rfl ?_); refine goesL_ (some 17) rfl rfl Try.func10 (by kernel_rfl) rfl #[.agg #[.int .i64 t168, .int .i64 t169, .int .i64 t170, .int .i64 t171, .slice Ao17 t172.length co17]] rfl (by (try simp only [mta, mco, mni]); first | done | rfl | (simp only [lnd, lnt]; rfl)) ?_; (with_reducible refine (spec_WideBody.calls k t168 t169 t170 t171 _ _ t172 t175 t176 _ ?side1 ?side2 A8.out).mono ?_); (case side1 => repeat (first | exact (Kd.R_reads' HO174.out).2.2 | (with_reducible first | apply kca | apply kcn | apply kcd))); (case side2 => exact (Kd.R_reads' HO174.out).2.1); rintro e w18 ⟨rfl, hb⟩; refine ⟨_, rfl, ?_⟩; have n0_ := am (krb (by (with_reducible repeat (first | apply kra | apply krn | apply krd)); exact HO174.out) hb); have n1_ := am (kbb (g := gb166) (o := .cells #[.int .i64 a0_0, .int .i64 a0_1, .int .i64 a0_2, .int .i64 a0_3, .slice A0_4 l0_4.length c0_4] 26 (0, 0)) (by (with_reducible repeat (first | apply kdn | apply kdr | apply kal)); exact BK166.out) hb); have n2_ := am (below_step (by repeat (first | (with_reducible first | exact HB.out | apply bal | apply pdn | apply bd1 | refine bst ?_ GE166.out) | exact HB.out)) hb); clear HO174; clear BK166; clear HB; have HO174 := n0_; have BK166 := n1_; have HB := n2_; clear n0_ n1_ n2_; (try clear hb); (try clear hb2); (try clear hk); (try clear hi); have hcz19_0 : w18.cell? ⟨gb166, 0, none⟩ = some (.int .i64 a0_0) := (kce BK166.out 0).trans rfl; have hcz19_1 : w18.cell? ⟨gb166, 1, none⟩ = some (.int .i64 a0_1) := (kce BK166.out 1).trans rfl; have hcz19_2 : w18.cell? ⟨gb166, 2, none⟩ = some (.int .i64 a0_2) := (kce BK166.out 2).trans rfl; have hcz19_3 : w18.cell? ⟨gb166, 3, none⟩ = some (.int .i64 a0_3) := (kce BK166.out 3).trans rfl; have hcz19_4 : w18.cell? ⟨gb166, 4, none⟩ = some (.slice A0_4 l0_4.length c0_4) := (kce BK166.out 4).trans rfl; have hfz19_0 := kfr BK166.out 0; have hfz19_1 := kfr BK166.out 1; have hfz19_2 := kfr BK166.out 2; have hfz19_3 := kfr BK166.out 3; have hfz19_4 := kfr BK166.out 4) | ((with_reducible refine gate_callee (f := 11) rfl ?_); refine goesL_ (some 21) rfl rfl Try.func11 (by kernel_rfl) rfl #[.agg #[.int .i64 a0_0, .int .i64 a0_1, .int .i64 a0_2, .int .i64 a0_3, .slice A0_4 l0_4.length c0_4]] rfl (by (try simp only [mta, mco, mni]); first | done | rfl | (simp only [lnd, lnt]; rfl)) ?_; (with_reducible refine (laws_toWide.calls k a0_0 a0_1 a0_2 a0_3 _ _ l0_4 t177 t178 t179 t180 t181 _ ?side1 ?side2 A9.out).mono ?_); (case side1 => repeat (first | exact (Kd.C_below HR0_4.out HB.out) | (with_reducible first | apply kca | apply kcn | apply kcd))); (case side2 => exact HC0_4.out); rintro e w20 ⟨v182, rfl, ho0, hb⟩; refine ⟨_, rfl, ?_⟩; have n0_ := am (kre (by (with_reducible repeat (first | apply kra | apply krn | apply krd)); exact HO174.out) (Kd.R_base ho0) hb); have n1_ := am (Kd.R_lower (Kd.R_new' ho0 (Kd.R_lt (by (with_reducible repeat (first | apply kra | apply krn | apply krd)); exact HO174.out))) (below_size (by repeat (first | (with_reducible first | exact HB.out | apply bal | apply pdn | apply bd1 | refine bst ?_ GE166.out) | exact HB.out)))); have n2_ := am (kbb (g := gb166) (o := .cells #[.int .i64 a0_0, .int .i64 a0_1, .int .i64 a0_2, .int .i64 a0_3, .slice A0_4 l0_4.length c0_4] 26 (0, 0)) (by (with_reducible repeat (first | apply kdn | apply kdr | apply kal)); exact BK166.out) hb); have n3_ := am (below_step (by repeat (first | (with_reducible first | exact HB.out | apply bal | apply pdn | apply bd1 | refine bst ?_ GE166.out) | exact HB.out)) hb); clear HO174; clear BK166; clear HB; have HO174 := n0_; have HO183 := n1_; have BK166 := n2_; have HB := n3_; clear n0_ n1_ n2_ n3_; (try clear hb); (try clear hb2); (try clear hk); (try clear hi); (try clear ho0)) | ((with_reducible refine gate_dst (N := 6) rfl ?_); refine box_event ?hg (N := 6) ?hd (cs := #[.int .i64 0, .int .i64 0, .int .i64 0, .int .i64 0, .slice none 0 0]) (t := 32) ?hr ?_; (case hd => rfl); (case hg => rfl); (case hr => first | (go_simp; done) | (go_simp; rfl)); intro gb184 hg w21 hbox hb; have n0_ := am (krb (by (with_reducible repeat (first | apply kra | apply krn | apply krd)); exact HO174.out) hb); have n1_ := am (krb (by (with_reducible repeat (first | apply kra | apply krn | apply krd)); exact HO183.out) hb); have n2_ := am (kbb (g := gb166) (o := .cells #[.int .i64 a0_0, .int .i64 a0_1, .int .i64 a0_2, .int .i64 a0_3, .slice A0_4 l0_4.length c0_4] 26 (0, 0)) (by (with_reducible repeat (first | apply kdn | apply kdr | apply kal)); exact BK166.out) hb); have n3_ := am (below_step (by repeat (first | (with_reducible first | exact HB.out | apply bal | apply pdn | apply bd1 | refine bst ?_ GE166.out) | exact HB.out)) hb); have n4_ := am (hbox); have n5_ := am ((by rw [hg]; exact (below_size (by repeat (first | (with_reducible first | exact HB.out | apply bal | apply pdn | apply bd1 | refine bst ?_ GE166.out) | exact HB.out))) : w.heap.size ≤ gb184)); have n6_ := am ((by rw [hg]; exact (below_size (by repeat (first | (with_reducible first | exact HB.out | apply bal | apply pdn | apply bd1 | refine bst ?_ GE166.out) | exact HB.out))) : w.heap.size ≤ gb184)); have n7_ := am ((by rw [hg]; exact Nat.ne_of_lt (blk_lt (g := gb166) (o := .cells #[.int .i64 a0_0, .int .i64 a0_1, .int .i64 a0_2, .int .i64 a0_3, .slice A0_4 l0_4.length c0_4] 26 (0, 0)) (by (with_reducible repeat (first | apply kdn | apply kdr | apply kal)); exact BK166.out)) : gb166 ≠ gb184)); have n8_ := am ((by rw [hg]; exact Nat.ne_of_gt (blk_lt (g := gb166) (o := .cells #[.int .i64 a0_0, .int .i64 a0_1, .int .i64 a0_2, .int .i64 a0_3, .slice A0_4 l0_4.length c0_4] 26 (0, 0)) (by (with_reducible repeat (first | apply kdn | apply kdr | apply kal)); exact BK166.out)) : gb184 ≠ gb166)); clear HO174; clear HO183; clear BK166; clear HB; have HO174 := n0_; have HO183 := n1_; have BK166 := n2_; have HB := n3_; have BK184 := n4_; have GW184 := n5_; have GE184 := n6_; have NB166_184 := n7_; have NB184_166 := n8_; clear n0_ n1_ n2_ n3_ n4_ n5_ n6_ n7_ n8_; clear hb hbox hg; have hnb22 := NB184_166.out; have hnc22 := NB166_184.out; have hcz23_0 : w21.cell? ⟨gb184, 0, none⟩ = some (.int .i64 0) := (kce BK184.out 0).trans rfl; have hcz23_1 : w21.cell? ⟨gb184, 1, none⟩ = some (.int .i64 0) := (kce BK184.out 1).trans rfl; have hcz23_2 : w21.cell? ⟨gb184, 2, none⟩ = some (.int .i64 0) := (kce BK184.out 2).trans rfl; have hcz23_3 : w21.cell? ⟨gb184, 3, none⟩ = some (.int .i64 0) := (kce BK184.out 3).trans rfl; have hcz23_4 : w21.cell? ⟨gb184, 4, none⟩ = some (.slice none 0 0) := (kce BK184.out 4).trans rfl; have hfz23_0 := kfr BK184.out 0; have hfz23_1 := kfr BK184.out 1; have hfz23_2 := kfr BK184.out 2; have hfz23_3 := kfr BK184.out 3; have hfz23_4 := kfr BK184.out 4; obtain ⟨Ao24, co24, eo24⟩ := Kd.R_slice HO183.out; subst eo24) | ((with_reducible refine gate_callee (f := 12) rfl ?_); refine goesL_ (some 24) rfl rfl Try.func12 (by kernel_rfl) rfl #[.agg #[.int .i64 t177, .int .i64 t178, .int .i64 t179, .int .i64 t180, .slice Ao24 t181.length co24]] rfl (by (try simp only [mta, mco, mni]); first | done | rfl | (simp only [lnd, lnt]; rfl)) ?_; (with_reducible refine (impl_WideBody.calls t177 t178 t179 t180 _ _ t181 t185 t186 _ ?side1 ?side2 A10.out).mono ?_); (case side1 => refine (Kd.R_reads' (e := 9) (base := w.heap.size) (ok := fun k_ => (True ∧ some k_ ≠ (.slice Ao17 t172.length co17 : Value).ownBlock)) (n := t181.length) (c := co24) ?_).2.2; exact (by (with_reducible repeat (first | apply kra | apply krn | apply krd)); exact (Kd.R_mono (kfa (p := ⟨gb184, 4, none⟩) (kfa (p := ⟨gb184, 3, none⟩) (kfa (p := ⟨gb184, 2, none⟩) (kfa (p := ⟨gb184, 1, none⟩) (kfa (p := ⟨gb184, 0, none⟩) (Kd.R_types HO183.out BK184.out (by decide)) (fun _ hk => hk.2) (.int .i64 t177)) (fun _ hk => hk.2) (.int .i64 t178)) (fun _ hk => hk.2) (.int .i64 t179)) (fun _ hk => hk.2) (.int .i64 t180)) (fun _ hk => hk.2) (.slice Ao24 t181.length co24)) (fun _ h_ => h_.1)))); (case side2 => exact (Kd.R_reads' HO183.out).2.1); rintro e w25 ⟨rfl, hb⟩; refine ⟨_, rfl, ?_⟩; have n0_ := am (krb (by (with_reducible repeat (first | apply kra | apply krn | apply krd)); exact (Kd.R_mono (kfa (p := ⟨gb184, 4, none⟩) (kfa (p := ⟨gb184, 3, none⟩) (kfa (p := ⟨gb184, 2, none⟩) (kfa (p := ⟨gb184, 1, none⟩) (kfa (p := ⟨gb184, 0, none⟩) (Kd.R_types HO174.out BK184.out (by decide)) (fun _ hk => hk.2) (.int .i64 t177)) (fun _ hk => hk.2) (.int .i64 t178)) (fun _ hk => hk.2) (.int .i64 t179)) (fun _ hk => hk.2) (.int .i64 t180)) (fun _ hk => hk.2) (.slice Ao24 t181.length co24)) (fun _ h_ => h_.1))) hb); have n1_ := am (krb (by (with_reducible repeat (first | apply kra | apply krn | apply krd)); exact (Kd.R_mono (kfa (p := ⟨gb184, 4, none⟩) (kfa (p := ⟨gb184, 3, none⟩) (kfa (p := ⟨gb184, 2, none⟩) (kfa (p := ⟨gb184, 1, none⟩) (kfa (p := ⟨gb184, 0, none⟩) (Kd.R_types HO183.out BK184.out (by decide)) (fun _ hk => hk.2) (.int .i64 t177)) (fun _ hk => hk.2) (.int .i64 t178)) (fun _ hk => hk.2) (.int .i64 t179)) (fun _ hk => hk.2) (.int .i64 t180)) (fun _ hk => hk.2) (.slice Ao24 t181.length co24)) (fun _ h_ => h_.1))) hb); have n2_ := am (kbb (g := gb166) (o := .cells #[.int .i64 a0_0, .int .i64 a0_1, .int .i64 a0_2, .int .i64 a0_3, .slice A0_4 l0_4.length c0_4] 26 (0, 0)) (by (with_reducible repeat (first | apply kdn | apply kdr | apply kal)); refine blk_far ?_ NB166_184.out _; (with_reducible repeat (first | apply kdn | apply kdr | apply kal)); refine blk_far ?_ NB166_184.out _; (with_reducible repeat (first | apply kdn | apply kdr | apply kal)); refine blk_far ?_ NB166_184.out _; (with_reducible repeat (first | apply kdn | apply kdr | apply kal)); refine blk_far ?_ NB166_184.out _; (with_reducible repeat (first | apply kdn | apply kdr | apply kal)); refine blk_far ?_ NB166_184.out _; (with_reducible repeat (first | apply kdn | apply kdr | apply kal)); exact BK166.out) hb); have n3_ := am (kbb (g := gb184) (o := .cells #[.int .i64 t177, .int .i64 t178, .int .i64 t179, .int .i64 t180, .slice Ao24 t181.length co24] 32 (0, 0)) (by (with_reducible repeat (first | apply kdn | apply kdr | apply kal)); refine blk_put (cs := #[.int .i64 t177, .int .i64 t178, .int .i64 t179, .int .i64 t180, .slice none 0 0]) ?_ 4 _ rfl; (with_reducible repeat (first | apply kdn | apply kdr | apply kal)); refine blk_put (cs := #[.int .i64 t177, .int .i64 t178, .int .i64 t179, .int .i64 0, .slice none 0 0]) ?_ 3 _ rfl; (with_reducible repeat (first | apply kdn | apply kdr | apply kal)); refine blk_put (cs := #[.int .i64 t177, .int .i64 t178, .int .i64 0, .int .i64 0, .slice none 0 0]) ?_ 2 _ rfl; (with_reducible repeat (first | apply kdn | apply kdr | apply kal)); refine blk_put (cs := #[.int .i64 t177, .int .i64 0, .int .i64 0, .int .i64 0, .slice none 0 0]) ?_ 1 _ rfl; (with_reducible repeat (first | apply kdn | apply kdr | apply kal)); refine blk_put (cs := #[.int .i64 0, .int .i64 0, .int .i64 0, .int .i64 0, .slice none 0 0]) ?_ 0 _ rfl; (with_reducible repeat (first | apply kdn | apply kdr | apply kal)); exact BK184.out) hb); have n4_ := am (below_step (by repeat (first | (with_reducible first | exact HB.out | apply bal | apply pdn | apply bd1 | refine bst ?_ GE166.out | refine bst ?_ GE184.out) | exact HB.out)) hb); clear HO174; clear HO183; clear BK166; clear BK184; clear HB; have HO174 := n0_; have HO183 := n1_; have BK166 := n2_; have BK184 := n3_; have HB := n4_; clear n0_ n1_ n2_ n3_ n4_; (try clear hb); (try clear hb2); (try clear hk); (try clear hi)))
  (try simp only [Act.put, sit, scz, scs])
  go_cut [34] (fun v34 wc => ∃ (kq : Nat) (x34_10 : Bool), v34 = .bool x34_10 ∧ Aside0 (laws_FnExactWideBody.j0 kq x34_10 a0_0 a0_1 a0_2 a0_3 l0_4 t177 t178 t179 t180 t181 = some r) ∧ Aside0 (kq ≤ k) ∧ Aside0 (Kd.R Kd.string 9 wc w.heap.size (fun _ => True) (.slice Ao24 t181.length co24) t181) ∧ Aside0 (wc.heap[gb166]? = some (.cells #[.int .i64 a0_0, .int .i64 a0_1, .int .i64 a0_2, .int .i64 a0_3, (.slice A0_4 l0_4.length c0_4)] 26 (0, 0))) ∧ Aside0 (wc.heap[gb184]? = some (.cells #[.int .i64 t177, .int .i64 t178, .int .i64 t179, .int .i64 t180, (.slice Ao24 t181.length co24)] 32 (0, 0))) ∧ Aside0 (Below w.heap.size w wc))
  case first =>
   have H := HC11.out
   clear HC11
   by_cases c26 : t185.toList = t175.toList
   ·rw [if_pos c26] at H
    have c26b0 : (t185.toList == t175.toList) = true := beq_iff_eq.mpr c26
    have c26b1 : (t185.toList != t175.toList) = false := bne_eq_false_iff_eq.mpr c26
    clear c26
    (first | rw [c26b0] | (simp only [i64_w, i32_w]; rw [c26b0]) | skip)
    have H' := am H
    clear H
    go_wp2
    go_meet
    case rel => exact ⟨_, ((t186 != t176)), (by first | rfl | (simp; done) | (simp [*]; done)), H', ⟨by first | omega | exact Nat.le_refl _⟩, ⟨by (with_reducible repeat (first | apply kra | apply krn | apply krd)); exact Kd.R_mono HO183.out (fun _ hk => trivial)⟩, ⟨by (with_reducible repeat (first | apply kdn | apply kdr | apply kal)); exact BK166.out⟩, ⟨by (with_reducible repeat (first | apply kdn | apply kdr | apply kal)); exact BK184.out⟩, ⟨by repeat (first | (with_reducible first | exact HB.out | apply bal | apply pdn | apply bd1 | refine bst ?_ GE166.out | refine bst ?_ GE184.out) | exact HB.out)⟩⟩
   ·rw [if_neg c26] at H
    have c26b0 : (t185.toList == t175.toList) = false := beq_eq_false_iff_ne.mpr c26
    have c26b1 : (t185.toList != t175.toList) = true := bne_iff_ne.mpr c26
    (first | rw [c26b0] | (simp only [i64_w, i32_w]; rw [c26b0]) | skip)
    have H' := am H
    clear H
    go_wp2
    go_meet
    case rel => exact ⟨_, (true), (by first | rfl | (simp; done) | (simp [*]; done)), H', ⟨by first | omega | exact Nat.le_refl _⟩, ⟨by (with_reducible repeat (first | apply kra | apply krn | apply krd)); exact Kd.R_mono HO183.out (fun _ hk => trivial)⟩, ⟨by (with_reducible repeat (first | apply kdn | apply kdr | apply kal)); exact BK166.out⟩, ⟨by (with_reducible repeat (first | apply kdn | apply kdr | apply kal)); exact BK184.out⟩, ⟨by repeat (first | (with_reducible first | exact HB.out | apply bal | apply pdn | apply bd1 | refine bst ?_ GE166.out | refine bst ?_ GE184.out) | exact HB.out)⟩⟩
  case rest =>
   clear HC11
   obtain ⟨kq, x34_10, rfl, HA, HJ10, HO_185004, BK166, BK184, HB⟩ := hcut
   cases kq with
   | zero => exact absurd HA.out (by simp [laws_FnExactWideBody.j0])
   | succ kj10 =>
    have H := HA.out
    clear HA
    simp only [laws_FnExactWideBody.j0] at H
    by_cases c27 : x34_10 = true
    ·subst c27
     have H1 : (some false) = some r := by rw [if_pos rfl] at H; exact H
     clear H
     have H := H1
     clear H1
     exact absurd ((Option.some.inj H).trans hT.out) (by decide)
    ·replace c27 := Bool.eq_false_iff.mpr c27
     subst c27
     have H1 : ((laws_toWide.f kj10 a0_0 a0_1 a0_2 a0_3 l0_4).bind fun bt187 => ((laws_eqWide.f kj10 t177 t178 t179 t180 t181 bt187.1 bt187.2.1 bt187.2.2.1 bt187.2.2.2.1 bt187.2.2.2.2).bind fun t194 => (if t194 = true then (some true) else (some false)))) = some r := by rw [if_neg (show ¬ (false = true) by decide)] at H; exact H
     clear H
     have H := H1
     clear H1
     replace H := Option.bind_eq_some_iff.mp H
     obtain ⟨⟨t187, t188, t189, t190, t191⟩, A280, H⟩ := H
     replace H : ((laws_eqWide.f kj10 t177 t178 t179 t180 t181 t187 t188 t189 t190 t191).bind fun t194 => (if t194 = true then (some true) else (some false))) = some r := H
     have A28 := am A280
     clear A280
     replace H := Option.bind_eq_some_iff.mp H
     obtain ⟨t194, A290, H⟩ := H
     replace H : (if t194 = true then (some true) else (some false)) = some r := H
     have A29 := am A290
     clear A290
     by_cases c30 : t194 = true
     ·subst c30
      have H1 : (some true) = some r := by rw [if_pos rfl] at H; exact H
      clear H
      have H := H1
      clear H1
      obtain rfl := Option.some.inj H
      try go_wp2
      have n0_ := am (krd HO_185004.out)
      have n1_ := am (kdr BK166.out)
      have n2_ := am (kdr BK184.out)
      have n3_ := am (bd1 HB.out)
      clear HO_185004
      clear BK166
      clear BK184
      clear HB
      have HO_185004 := n0_
      have BK166 := n1_
      have BK184 := n2_
      have HB := n3_
      clear n0_ n1_ n2_ n3_
      refine start_ (n := 5) (S := fun w' => w'.cell? ⟨gb184, 0, none⟩ = some (.int .i64 t177) ∧ w'.cell? ⟨gb184, 1, none⟩ = some (.int .i64 t178) ∧ w'.cell? ⟨gb184, 2, none⟩ = some (.int .i64 t179) ∧ w'.cell? ⟨gb184, 3, none⟩ = some (.int .i64 t180) ∧ w'.cell? ⟨gb184, 4, none⟩ = some (.slice Ao24 t181.length co24) ∧ w'.cell? ⟨gb166, 0, none⟩ = some (.int .i64 a0_0) ∧ w'.cell? ⟨gb166, 1, none⟩ = some (.int .i64 a0_1) ∧ w'.cell? ⟨gb166, 2, none⟩ = some (.int .i64 a0_2) ∧ w'.cell? ⟨gb166, 3, none⟩ = some (.int .i64 a0_3) ∧ w'.cell? ⟨gb166, 4, none⟩ = some (.slice A0_4 l0_4.length c0_4)) (ds := []) #[false, false, false, false, false] (by kernel_rfl) rfl rfl ⟨(kce BK184.out 0).trans rfl, (kce BK184.out 1).trans rfl, (kce BK184.out 2).trans rfl, (kce BK184.out 3).trans rfl, (kce BK184.out 4).trans rfl, (kce BK166.out 0).trans rfl, (kce BK166.out 1).trans rfl, (kce BK166.out 2).trans rfl, (kce BK166.out 3).trans rfl, (kce BK166.out 4).trans rfl⟩ (fun hHeld => ?_)
      generalize wc.drew = w31 at HO_185004 BK166 BK184 HB hHeld ⊢
      refine take_ (i := 0) (N := some 35) (v := ?_) (a' := ?_) #[true, false, false, false, false] rfl rfl (by kernel_rfl) (fun _ _ _ h => h) (Or.inl ⟨by rfl, ?_⟩) hHeld ?_ ?_
      rotate_left
      ·rintro w' ⟨s0, s1, s2, s3, s4, s5, s6, s7, s8, s9⟩
       go_simp
       with_reducible rfl
      rotate_left
      ·simp only [Act.put, sit, scz, scs, i64_w, i32_w]
       rfl
      refine take_ (i := 1) (N := some 36) (v := ?_) (a' := ?_) #[true, true, false, false, false] rfl rfl (by kernel_rfl) (fun _ _ _ h => h) (Or.inl ⟨by rfl, ?_⟩) hHeld ?_ ?_
      rotate_left
      ·rintro w' ⟨s0, s1, s2, s3, s4, s5, s6, s7, s8, s9⟩
       go_simp
       with_reducible rfl
      rotate_left
      ·simp only [Act.put, sit, scz, scs, i64_w, i32_w]
       rfl
      refine one_ (i := 2) (N := some 37) #[true, true, true, false, false] rfl rfl (by kernel_rfl) (by decide) (fun K hK => ?_)
      refine goes_ Try.func11 (by kernel_rfl) rfl #[.agg #[.int .i64 a0_0, .int .i64 a0_1, .int .i64 a0_2, .int .i64 a0_3, .slice A0_4 l0_4.length c0_4]] (by rfl) rfl rfl (by (try simp only [mta, mco, mni]); first | done | rfl | (simp only [lnd, lnt]; rfl)) ?_
      with_reducible refine (laws_toWide.calls kj10 a0_0 a0_1 a0_2 a0_3 _ _ l0_4 t187 t188 t189 t190 t191 _ ?side1 ?side2 A28.out).mono ?_
      (case side1 => repeat (first | exact (Kd.C_below HR0_4.out HB.out) | (with_reducible first | apply kca | apply kcn | apply kcd)))
      (case side2 => exact HC0_4.out)
      rintro e w32 ⟨v192, rfl, ho0, hb⟩
      refine ⟨_, rfl, ?_⟩
      have n0_ := am (kre (by (with_reducible repeat (first | apply kra | apply krn | apply krd)); exact HO_185004.out) (Kd.R_base ho0) hb)
      have n1_ := am (Kd.R_lower (Kd.R_new' ho0 (Kd.R_lt (by (with_reducible repeat (first | apply kra | apply krn | apply krd)); exact HO_185004.out))) (below_size (by repeat (first | (with_reducible first | exact HB.out | apply bal | apply pdn | apply bd1 | refine bst ?_ GE166.out | refine bst ?_ GE184.out) | exact HB.out))))
      have n2_ := am (kbb (g := gb166) (o := .cells #[.int .i64 a0_0, .int .i64 a0_1, .int .i64 a0_2, .int .i64 a0_3, .slice A0_4 l0_4.length c0_4] 26 (0, 0)) (by (with_reducible repeat (first | apply kdn | apply kdr | apply kal)); exact BK166.out) hb)
      have n3_ := am (kbb (g := gb184) (o := .cells #[.int .i64 t177, .int .i64 t178, .int .i64 t179, .int .i64 t180, .slice Ao24 t181.length co24] 32 (0, 0)) (by (with_reducible repeat (first | apply kdn | apply kdr | apply kal)); exact BK184.out) hb)
      have n4_ := am (below_step (by repeat (first | (with_reducible first | exact HB.out | apply bal | apply pdn | apply bd1 | refine bst ?_ GE166.out | refine bst ?_ GE184.out) | exact HB.out)) hb)
      clear HO_185004
      clear BK166
      clear BK184
      clear HB
      have HO_185004 := n0_
      have HO193 := n1_
      have BK166 := n2_
      have BK184 := n3_
      have HB := n4_
      clear n0_ n1_ n2_ n3_ n4_
      (try clear ho0)
      obtain ⟨Ao33, co33, eo33⟩ := Kd.R_slice HO193.out
      (first | subst eo33 | (injection eo33 with f1_ f2_ f3_; have f4_ := f1_.symm; have f5_ := f3_.symm; clear f1_ f2_ f3_; subst f4_; subst f5_))
      refine hK.out _ _ ⟨(kce BK184.out 0).trans rfl, (kce BK184.out 1).trans rfl, (kce BK184.out 2).trans rfl, (kce BK184.out 3).trans rfl, (kce BK184.out 4).trans rfl, (kce BK166.out 0).trans rfl, (kce BK166.out 1).trans rfl, (kce BK166.out 2).trans rfl, (kce BK166.out 3).trans rfl, (kce BK166.out 4).trans rfl⟩ (fun hHeld => ?_)
      clear hK K
      refine norm_ (a' := ?_) ?_ ?_
      rotate_left
      ·show Act.put _ (some 37) _ = _
       simp only [Act.put, sit, scz, scs, i64_w, i32_w]
       rfl
      refine one_ (i := 3) (N := some 38) #[true, true, true, true, false] rfl rfl (by kernel_rfl) (by decide) (fun K hK => ?_)
      refine goes_ Try.func13 (by kernel_rfl) rfl #[.agg #[.int .i64 t177, .int .i64 t178, .int .i64 t179, .int .i64 t180, .slice Ao24 t181.length co24], .agg #[.int .i64 t187, .int .i64 t188, .int .i64 t189, .int .i64 t190, .slice Ao33 t191.length co33]] (by rfl) rfl rfl (by (try simp only [mta, mco, mni]); first | done | rfl | (simp only [lnd, lnt]; rfl)) ?_
      with_reducible refine (laws_eqWide.calls kj10 t177 t178 t179 t180 _ _ t181 t187 t188 t189 t190 _ _ t191 true _ ?side1 ?side2 ?side3 ?side4 A29.out).mono ?_
      (case side1 => repeat (first | exact (Kd.R_reads' HO_185004.out).2.2 | (with_reducible first | apply kca | apply kcn | apply kcd)))
      (case side2 => exact (Kd.R_reads' HO_185004.out).2.1)
      (case side3 => repeat (first | exact (Kd.R_reads' HO193.out).2.2 | (with_reducible first | apply kca | apply kcn | apply kcd)))
      (case side4 => exact (Kd.R_reads' HO193.out).2.1)
      rintro e w34 ⟨rfl, hb⟩
      refine ⟨_, rfl, ?_⟩
      have n0_ := am (krb (by (with_reducible repeat (first | apply kra | apply krn | apply krd)); exact HO_185004.out) hb)
      have n1_ := am (krb (by (with_reducible repeat (first | apply kra | apply krn | apply krd)); exact HO193.out) hb)
      have n2_ := am (kbb (g := gb166) (o := .cells #[.int .i64 a0_0, .int .i64 a0_1, .int .i64 a0_2, .int .i64 a0_3, .slice A0_4 l0_4.length c0_4] 26 (0, 0)) (by (with_reducible repeat (first | apply kdn | apply kdr | apply kal)); exact BK166.out) hb)
      have n3_ := am (kbb (g := gb184) (o := .cells #[.int .i64 t177, .int .i64 t178, .int .i64 t179, .int .i64 t180, .slice Ao24 t181.length co24] 32 (0, 0)) (by (with_reducible repeat (first | apply kdn | apply kdr | apply kal)); exact BK184.out) hb)
      have n4_ := am (below_step (by repeat (first | (with_reducible first | exact HB.out | apply bal | apply pdn | apply bd1 | refine bst ?_ GE166.out | refine bst ?_ GE184.out) | exact HB.out)) hb)
      clear HO_185004
      clear HO193
      clear BK166
      clear BK184
      clear HB
      have HO_185004 := n0_
      have HO193 := n1_
      have BK166 := n2_
      have BK184 := n3_
      have HB := n4_
      clear n0_ n1_ n2_ n3_ n4_
      refine hK.out _ _ ⟨(kce BK184.out 0).trans rfl, (kce BK184.out 1).trans rfl, (kce BK184.out 2).trans rfl, (kce BK184.out 3).trans rfl, (kce BK184.out 4).trans rfl, (kce BK166.out 0).trans rfl, (kce BK166.out 1).trans rfl, (kce BK166.out 2).trans rfl, (kce BK166.out 3).trans rfl, (kce BK166.out 4).trans rfl⟩ (fun hHeld => ?_)
      clear hK K
      refine norm_ (a' := ?_) ?_ ?_
      rotate_left
      ·show Act.put _ (some 38) _ = _
       simp only [Act.put, sit, scz, scs, i64_w, i32_w]
       rfl
      refine pure_ (i := 4) (N := some 39) (v := ?_) (a' := ?_) #[true, true, true, true, true] rfl rfl (by kernel_rfl) (fun _ _ _ h => h) (Or.inl ⟨by rfl, ?_⟩) ?_ ?_
      rotate_left
      ·intro w'
       go_simp
       with_reducible rfl
      rotate_left
      ·simp only [Act.put, sit, scz, scs, i64_w, i32_w]
       rfl
      refine done_ (by kernel_rfl) ?_
      try go_wp2
      go_ret
      exact ⟨by first | rfl | (simp [errW_none, errW_some] <;> rfl) | (simp [*, errW_none, errW_some] <;> rfl), by repeat (first | (with_reducible first | exact HB.out | apply bal | apply pdn | apply bd1 | refine bst ?_ GE166.out | refine bst ?_ GE184.out) | exact HB.out)⟩
     ·replace c30 := Bool.eq_false_iff.mpr c30
      subst c30
      have H1 : (some false) = some r := by rw [if_neg (show ¬ (false = true) by decide)] at H; exact H
      clear H
      have H := H1
      clear H1
      exact absurd ((Option.some.inj H).trans hT.out) (by decide)

end Go.Proofs.Ytmpakjgbbjkacaa.MFnExactWideBody
