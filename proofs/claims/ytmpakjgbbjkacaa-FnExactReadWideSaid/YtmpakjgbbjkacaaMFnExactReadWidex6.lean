-- Written by a program of this session (wip/tools/myprint.py) over the kit's print: it is not the kit's print.
import Derived.Test.YtmpakjgbbjkacaaExtra
import Derived.Test.YtmpakjgbbjkacaaMFnExactReadWidex0
import Derived.Test.YtmpakjgbbjkacaaMFnExactReadWidex1
import Derived.Test.YtmpakjgbbjkacaaMFnExactReadWidex3
import Derived.Test.YtmpakjgbbjkacaaMFnExactReadWidex5
namespace Go.Proofs.Ytmpakjgbbjkacaa.MFnExactReadWide
open Go.RowKit Go.Proofs.YtmpakjgbbjkacaaW.PrintWords Go.Proofs.YtmpakjgbbjkacaaW.PrintLast Go.Proofs.YtmpakjgbbjkacaaW.PrintMore
open List renaming setIfInBounds_toArray → sit, set_cons_zero → scz, set_cons_succ → scs, map_toArray → mta, map_cons → mco, map_nil → mni, length_drop → lnd, length_take → lnt
attribute [local go_sem] max2_int min2_int max_two min_two max_three min_three max_four min_four   -- for this text's walks alone
set_option linter.unusedVariables false
set_option linter.unusedSimpArgs false

/-! ### laws_FnExactReadWide: function 4 -/
def laws_FnExactReadWide.j0 : Nat → Bool → Int → Int → Int → Int → List ByteArray → Int → Int → Int → Int → List ByteArray → Option (Bool)
 | 0, _, _, _, _, _, _, _, _, _, _, _ => none
 | k + 1, x42, x170000, x170001, x170002, x170003, x170004, x188000, x188001, x188002, x188003, x188004 => if x42 = true then (some false) else ((laws_toWide.f k x170000 x170001 x170002 x170003 x170004).bind fun bt190 => ((laws_eqWide.f k x188000 x188001 x188002 x188003 x188004 bt190.1 bt190.2.1 bt190.2.2.1 bt190.2.2.2.1 bt190.2.2.2.2).bind fun t197 => (if t197 = true then (some true) else (some false))))
def laws_FnExactReadWide.f (k : Nat) (a0_0 : Int) (a0_1 : Int) (a0_2 : Int) (a0_3 : Int) (l0_4 : List ByteArray) (a1 : Int) (a2 : Int) : Option (Bool) := (laws_szWide.f k a0_0 a0_1 a0_2 a0_3 l0_4 1048576).bind fun t170 => (if t170 < 0 then (some true) else ((laws_toWide.f k a0_0 a0_1 a0_2 a0_3 l0_4).bind fun bt171 => ((spec_ReadWide.f k bt171.1 bt171.2.1 bt171.2.2.1 bt171.2.2.2.1 bt171.2.2.2.2 a1 a2).bind fun bt178 => ((laws_toWide.f k a0_0 a0_1 a0_2 a0_3 l0_4).bind fun bt180 => ((impl_ReadWide.f bt180.1 bt180.2.1 bt180.2.2.1 bt180.2.2.2.1 bt180.2.2.2.2 a1 a2).bind fun bt188 => (if bt188.1.toList = bt178.1.toList then (laws_FnExactReadWide.j0 k (bt188.2 != bt178.2) a0_0 a0_1 a0_2 a0_3 l0_4 bt180.1 bt180.2.1 bt180.2.2.1 bt180.2.2.2.1 bt180.2.2.2.2) else (laws_FnExactReadWide.j0 k true a0_0 a0_1 a0_2 a0_3 l0_4 bt180.1 bt180.2.1 bt180.2.2.1 bt180.2.2.2.1 bt180.2.2.2.2)))))))
theorem laws_FnExactReadWide.mono_l : ∀ k, (∀ y0 y1 y2 y3 y4 y5 y6 y7 y8 y9 y10, LeO (laws_FnExactReadWide.j0 k y0 y1 y2 y3 y4 y5 y6 y7 y8 y9 y10) (laws_FnExactReadWide.j0 (k + 1) y0 y1 y2 y3 y4 y5 y6 y7 y8 y9 y10))
 | 0 => fun _ _ _ _ _ _ _ _ _ _ _ r h => by simp [laws_FnExactReadWide.j0] at h
 | k + 1 => by
  have ih0 := laws_FnExactReadWide.mono_l k
  ·intro y0 y1 y2 y3 y4 y5 y6 y7 y8 y9 y10
   unfold laws_FnExactReadWide.j0
   repeat' first
   | (with_reducible exact ih0 _ _ _ _ _ _ _ _ _ _ _)
   | (with_reducible exact laws_eqWide.mono _ _ _ _ _ _ _ _ _ _ _)
   | (with_reducible exact laws_szWide.mono _ _ _ _ _ _ _)
   | (with_reducible exact laws_toWide.mono _ _ _ _ _ _)
   | (with_reducible exact spec_ReadWide.mono _ _ _ _ _ _ _ _)
   | (with_reducible exact LeO.refl _)
   | (with_reducible exact LeO.none _)
   | (with_reducible refine LeO.ite ?_ ?_)
   | (with_reducible refine LeO.bind ?_ (fun _ => ?_))
   | exact ih0 _ _ _ _ _ _ _ _ _ _ _
   | exact laws_eqWide.mono _ _ _ _ _ _ _ _ _ _ _
   | exact laws_szWide.mono _ _ _ _ _ _ _
   | exact laws_toWide.mono _ _ _ _ _ _
   | exact spec_ReadWide.mono _ _ _ _ _ _ _ _
   | exact LeO.none _
   | refine LeO.ite ?_ ?_
   | refine LeO.bind ?_ (fun _ => ?_)
theorem laws_FnExactReadWide.mono : ∀ a0 a1 a2 a3 a4 a5 a6 k, LeO (laws_FnExactReadWide.f k a0 a1 a2 a3 a4 a5 a6) (laws_FnExactReadWide.f (k + 1) a0 a1 a2 a3 a4 a5 a6) := by
 intro a0 a1 a2 a3 a4 a5 a6 k
 have ih0 := laws_FnExactReadWide.mono_l k
 unfold laws_FnExactReadWide.f
 repeat' first
   | (with_reducible exact ih0 _ _ _ _ _ _ _ _ _ _ _)
   | (with_reducible exact laws_eqWide.mono _ _ _ _ _ _ _ _ _ _ _)
   | (with_reducible exact laws_szWide.mono _ _ _ _ _ _ _)
   | (with_reducible exact laws_toWide.mono _ _ _ _ _ _)
   | (with_reducible exact spec_ReadWide.mono _ _ _ _ _ _ _ _)
   | (with_reducible exact LeO.refl _)
   | (with_reducible exact LeO.none _)
   | (with_reducible refine LeO.ite ?_ ?_)
   | (with_reducible refine LeO.bind ?_ (fun _ => ?_))
   | exact ih0 _ _ _ _ _ _ _ _ _ _ _
   | exact laws_eqWide.mono _ _ _ _ _ _ _ _ _ _ _
   | exact laws_szWide.mono _ _ _ _ _ _ _
   | exact laws_toWide.mono _ _ _ _ _ _
   | exact spec_ReadWide.mono _ _ _ _ _ _ _ _
   | exact LeO.none _
   | refine LeO.ite ?_ ?_
   | refine LeO.bind ?_ (fun _ => ?_)
set_option maxHeartbeats 8000000 in
set_option maxRecDepth 100000 in
theorem laws_FnExactReadWide.calls (k : Nat) (a0_0 : Int) (a0_1 : Int) (a0_2 : Int) (a0_3 : Int) (A0_4 : Option Addr) (c0_4 : Nat) (l0_4 : List ByteArray) (a1 : Int) (a2 : Int) (r : Bool) (w : World) (hr0_4 : Kd.C Kd.string w A0_4 l0_4.length l0_4) (hc0_4 : l0_4.length ≤ c0_4) (hT0 : r = true) (h : laws_FnExactReadWide.f k a0_0 a0_1 a0_2 a0_3 l0_4 a1 a2 = some r) :
  Calls Try.prog 4 #[.agg #[.int .i64 a0_0, .int .i64 a0_1, .int .i64 a0_2, .int .i64 a0_3, .slice A0_4 l0_4.length c0_4], .int .i64 a1, .int .i64 a2] w fun e w' => e = .returned (.bool r) ∧ Below w.heap.size w w' := by
 have hT := am hT0
 clear hT0
 have hu26 := Try.underlying26
 have hu32 := Try.underlying32
 have HR0_4 := am hr0_4
 have HC0_4 := am hc0_4
 clear hr0_4 hc0_4
 have HB := am (Below.refl w.heap.size w)
 have H : ((laws_szWide.f k a0_0 a0_1 a0_2 a0_3 l0_4 1048576).bind fun t170 => (if t170 < 0 then (some true) else ((laws_toWide.f k a0_0 a0_1 a0_2 a0_3 l0_4).bind fun bt171 => ((spec_ReadWide.f k bt171.1 bt171.2.1 bt171.2.2.1 bt171.2.2.2.1 bt171.2.2.2.2 a1 a2).bind fun bt178 => ((laws_toWide.f k a0_0 a0_1 a0_2 a0_3 l0_4).bind fun bt180 => ((impl_ReadWide.f bt180.1 bt180.2.1 bt180.2.2.1 bt180.2.2.2.1 bt180.2.2.2.2 a1 a2).bind fun bt188 => (if bt188.1.toList = bt178.1.toList then (laws_FnExactReadWide.j0 k (bt188.2 != bt178.2) a0_0 a0_1 a0_2 a0_3 l0_4 bt180.1 bt180.2.1 bt180.2.2.1 bt180.2.2.2.1 bt180.2.2.2.2) else (laws_FnExactReadWide.j0 k true a0_0 a0_1 a0_2 a0_3 l0_4 bt180.1 bt180.2.1 bt180.2.2.1 bt180.2.2.2.1 bt180.2.2.2.2)))))))) = some r := h
 clear h
 replace H := Option.bind_eq_some_iff.mp H
 obtain ⟨t170, A40, H⟩ := H
 replace H : (if t170 < 0 then (some true) else ((laws_toWide.f k a0_0 a0_1 a0_2 a0_3 l0_4).bind fun bt171 => ((spec_ReadWide.f k bt171.1 bt171.2.1 bt171.2.2.1 bt171.2.2.2.1 bt171.2.2.2.2 a1 a2).bind fun bt178 => ((laws_toWide.f k a0_0 a0_1 a0_2 a0_3 l0_4).bind fun bt180 => ((impl_ReadWide.f bt180.1 bt180.2.1 bt180.2.2.1 bt180.2.2.2.1 bt180.2.2.2.2 a1 a2).bind fun bt188 => (if bt188.1.toList = bt178.1.toList then (laws_FnExactReadWide.j0 k (bt188.2 != bt178.2) a0_0 a0_1 a0_2 a0_3 l0_4 bt180.1 bt180.2.1 bt180.2.2.1 bt180.2.2.2.1 bt180.2.2.2.2) else (laws_FnExactReadWide.j0 k true a0_0 a0_1 a0_2 a0_3 l0_4 bt180.1 bt180.2.1 bt180.2.2.1 bt180.2.2.2.1 bt180.2.2.2.2))))))) = some r := H
 have A4 := am A40
 clear A40
 by_cases c5 : t170 < 0
 ·rw [if_pos c5] at H
  have c5b0 : decide (t170 < 0) = true := decide_eq_true c5
  clear c5
  obtain rfl := Option.some.inj H
  go_enter Try.func4, Try.ntmps4
  go_wp2_with (first | ((with_reducible refine gate_dst (N := 3) rfl ?_); refine box_event ?hg (N := 3) ?hd (cs := #[.int .i64 a0_0, .int .i64 a0_1, .int .i64 a0_2, .int .i64 a0_3, .slice A0_4 l0_4.length c0_4]) (t := 26) ?hr ?_; (case hd => rfl); (case hg => rfl); (case hr => first | (go_simp; done) | (go_simp; rfl)); intro gb169 hg w6 hbox hb; have n0_ := am (below_step (by repeat (first | (with_reducible first | exact HB.out | apply bal | apply pdn | apply bd1) | exact HB.out)) hb); have n1_ := am (hbox); have n2_ := am ((by rw [hg]; exact (below_size (by repeat (first | (with_reducible first | exact HB.out | apply bal | apply pdn | apply bd1) | exact HB.out))) : w.heap.size ≤ gb169)); have n3_ := am ((by rw [hg]; exact (below_size (by repeat (first | (with_reducible first | exact HB.out | apply bal | apply pdn | apply bd1) | exact HB.out))) : w.heap.size ≤ gb169)); clear HB; have HB := n0_; have BK169 := n1_; have GW169 := n2_; have GE169 := n3_; clear n0_ n1_ n2_ n3_; clear hb hbox hg; have hcz7_0 : w6.cell? ⟨gb169, 0, none⟩ = some (.int .i64 a0_0) := (kce BK169.out 0).trans rfl; have hcz7_1 : w6.cell? ⟨gb169, 1, none⟩ = some (.int .i64 a0_1) := (kce BK169.out 1).trans rfl; have hcz7_2 : w6.cell? ⟨gb169, 2, none⟩ = some (.int .i64 a0_2) := (kce BK169.out 2).trans rfl; have hcz7_3 : w6.cell? ⟨gb169, 3, none⟩ = some (.int .i64 a0_3) := (kce BK169.out 3).trans rfl; have hcz7_4 : w6.cell? ⟨gb169, 4, none⟩ = some (.slice A0_4 l0_4.length c0_4) := (kce BK169.out 4).trans rfl; have hfz7_0 := kfr BK169.out 0; have hfz7_1 := kfr BK169.out 1; have hfz7_2 := kfr BK169.out 2; have hfz7_3 := kfr BK169.out 3; have hfz7_4 := kfr BK169.out 4) | ((with_reducible refine gate_callee (f := 9) rfl ?_); refine goesL_ (some 15) rfl rfl Try.func9 (by kernel_rfl) rfl #[.agg #[.int .i64 a0_0, .int .i64 a0_1, .int .i64 a0_2, .int .i64 a0_3, .slice A0_4 l0_4.length c0_4], .int .i64 1048576] rfl (by (try simp only [mta, mco, mni]); first | done | rfl | (simp only [lnd, lnt]; rfl)) ?_; (with_reducible refine (laws_szWide.calls k a0_0 a0_1 a0_2 a0_3 _ _ l0_4 1048576 t170 _ ?side1 ?side2 A4.out).mono ?_); (case side1 => repeat (first | exact (Kd.C_below HR0_4.out HB.out) | (with_reducible first | apply kca | apply kcn | apply kcd))); (case side2 => exact HC0_4.out); rintro e w8 ⟨rfl, hb⟩; refine ⟨_, rfl, ?_⟩; have n0_ := am (kbb (g := gb169) (o := .cells #[.int .i64 a0_0, .int .i64 a0_1, .int .i64 a0_2, .int .i64 a0_3, .slice A0_4 l0_4.length c0_4] 26 (0, 0)) (by (with_reducible repeat (first | apply kdn | apply kdr | apply kal)); exact BK169.out) hb); have n1_ := am (below_step (by repeat (first | (with_reducible first | exact HB.out | apply bal | apply pdn | apply bd1 | refine bst ?_ GE169.out) | exact HB.out)) hb); clear BK169; clear HB; have BK169 := n0_; have HB := n1_; clear n0_ n1_; (try clear hb); (try clear hb2); (try clear hk); (try clear hi)))
  go_ret
  exact ⟨by first | rfl | (simp [errW_none, errW_some] <;> rfl) | (simp [*, errW_none, errW_some] <;> rfl), by repeat (first | (with_reducible first | exact HB.out | apply bal | apply pdn | apply bd1 | refine bst ?_ GE169.out) | exact HB.out)⟩
 ·rw [if_neg c5] at H
  have c5b0 : decide (t170 < 0) = false := decide_eq_false c5
  clear c5
  replace H := Option.bind_eq_some_iff.mp H
  obtain ⟨⟨t171, t172, t173, t174, t175⟩, A90, H⟩ := H
  replace H : ((spec_ReadWide.f k t171 t172 t173 t174 t175 a1 a2).bind fun bt178 => ((laws_toWide.f k a0_0 a0_1 a0_2 a0_3 l0_4).bind fun bt180 => ((impl_ReadWide.f bt180.1 bt180.2.1 bt180.2.2.1 bt180.2.2.2.1 bt180.2.2.2.2 a1 a2).bind fun bt188 => (if bt188.1.toList = bt178.1.toList then (laws_FnExactReadWide.j0 k (bt188.2 != bt178.2) a0_0 a0_1 a0_2 a0_3 l0_4 bt180.1 bt180.2.1 bt180.2.2.1 bt180.2.2.2.1 bt180.2.2.2.2) else (laws_FnExactReadWide.j0 k true a0_0 a0_1 a0_2 a0_3 l0_4 bt180.1 bt180.2.1 bt180.2.2.1 bt180.2.2.2.1 bt180.2.2.2.2))))) = some r := H
  have A9 := am A90
  clear A90
  replace H := Option.bind_eq_some_iff.mp H
  obtain ⟨⟨t178, t179⟩, A100, H⟩ := H
  replace H : ((laws_toWide.f k a0_0 a0_1 a0_2 a0_3 l0_4).bind fun bt180 => ((impl_ReadWide.f bt180.1 bt180.2.1 bt180.2.2.1 bt180.2.2.2.1 bt180.2.2.2.2 a1 a2).bind fun bt188 => (if bt188.1.toList = t178.toList then (laws_FnExactReadWide.j0 k (bt188.2 != t179) a0_0 a0_1 a0_2 a0_3 l0_4 bt180.1 bt180.2.1 bt180.2.2.1 bt180.2.2.2.1 bt180.2.2.2.2) else (laws_FnExactReadWide.j0 k true a0_0 a0_1 a0_2 a0_3 l0_4 bt180.1 bt180.2.1 bt180.2.2.1 bt180.2.2.2.1 bt180.2.2.2.2)))) = some r := H
  have A10 := am A100
  clear A100
  replace H := Option.bind_eq_some_iff.mp H
  obtain ⟨⟨t180, t181, t182, t183, t184⟩, A110, H⟩ := H
  replace H : ((impl_ReadWide.f t180 t181 t182 t183 t184 a1 a2).bind fun bt188 => (if bt188.1.toList = t178.toList then (laws_FnExactReadWide.j0 k (bt188.2 != t179) a0_0 a0_1 a0_2 a0_3 l0_4 t180 t181 t182 t183 t184) else (laws_FnExactReadWide.j0 k true a0_0 a0_1 a0_2 a0_3 l0_4 t180 t181 t182 t183 t184))) = some r := H
  have A11 := am A110
  clear A110
  replace H := Option.bind_eq_some_iff.mp H
  obtain ⟨⟨t188, t189⟩, A120, H⟩ := H
  replace H : (if t188.toList = t178.toList then (laws_FnExactReadWide.j0 k (t189 != t179) a0_0 a0_1 a0_2 a0_3 l0_4 t180 t181 t182 t183 t184) else (laws_FnExactReadWide.j0 k true a0_0 a0_1 a0_2 a0_3 l0_4 t180 t181 t182 t183 t184)) = some r := H
  have A12 := am A120
  clear A120
  have HC13 := am H
  clear H
  go_enter Try.func4, Try.ntmps4
  go_upto_region 8 with (first | ((with_reducible refine gate_dst (N := 3) rfl ?_); refine box_event ?hg (N := 3) ?hd (cs := #[.int .i64 a0_0, .int .i64 a0_1, .int .i64 a0_2, .int .i64 a0_3, .slice A0_4 l0_4.length c0_4]) (t := 26) ?hr ?_; (case hd => rfl); (case hg => rfl); (case hr => first | (go_simp; done) | (go_simp; rfl)); intro gb169 hg w14 hbox hb; have n0_ := am (below_step (by repeat (first | (with_reducible first | exact HB.out | apply bal | apply pdn | apply bd1) | exact HB.out)) hb); have n1_ := am (hbox); have n2_ := am ((by rw [hg]; exact (below_size (by repeat (first | (with_reducible first | exact HB.out | apply bal | apply pdn | apply bd1) | exact HB.out))) : w.heap.size ≤ gb169)); have n3_ := am ((by rw [hg]; exact (below_size (by repeat (first | (with_reducible first | exact HB.out | apply bal | apply pdn | apply bd1) | exact HB.out))) : w.heap.size ≤ gb169)); clear HB; have HB := n0_; have BK169 := n1_; have GW169 := n2_; have GE169 := n3_; clear n0_ n1_ n2_ n3_; clear hb hbox hg; have hcz15_0 : w14.cell? ⟨gb169, 0, none⟩ = some (.int .i64 a0_0) := (kce BK169.out 0).trans rfl; have hcz15_1 : w14.cell? ⟨gb169, 1, none⟩ = some (.int .i64 a0_1) := (kce BK169.out 1).trans rfl; have hcz15_2 : w14.cell? ⟨gb169, 2, none⟩ = some (.int .i64 a0_2) := (kce BK169.out 2).trans rfl; have hcz15_3 : w14.cell? ⟨gb169, 3, none⟩ = some (.int .i64 a0_3) := (kce BK169.out 3).trans rfl; have hcz15_4 : w14.cell? ⟨gb169, 4, none⟩ = some (.slice A0_4 l0_4.length c0_4) := (kce BK169.out 4).trans rfl; have hfz15_0 := kfr BK169.out 0; have hfz15_1 := kfr BK169.out 1; have hfz15_2 := kfr BK169.out 2; have hfz15_3 := kfr BK169.out 3; have hfz15_4 := kfr BK169.out 4) | ((with_reducible refine gate_callee (f := 9) rfl ?_); refine goesL_ (some 15) rfl rfl Try.func9 (by kernel_rfl) rfl #[.agg #[.int .i64 a0_0, .int .i64 a0_1, .int .i64 a0_2, .int .i64 a0_3, .slice A0_4 l0_4.length c0_4], .int .i64 1048576] rfl (by (try simp only [mta, mco, mni]); first | done | rfl | (simp only [lnd, lnt]; rfl)) ?_; (with_reducible refine (laws_szWide.calls k a0_0 a0_1 a0_2 a0_3 _ _ l0_4 1048576 t170 _ ?side1 ?side2 A4.out).mono ?_); (case side1 => repeat (first | exact (Kd.C_below HR0_4.out HB.out) | (with_reducible first | apply kca | apply kcn | apply kcd))); (case side2 => exact HC0_4.out); rintro e w16 ⟨rfl, hb⟩; refine ⟨_, rfl, ?_⟩; have n0_ := am (kbb (g := gb169) (o := .cells #[.int .i64 a0_0, .int .i64 a0_1, .int .i64 a0_2, .int .i64 a0_3, .slice A0_4 l0_4.length c0_4] 26 (0, 0)) (by (with_reducible repeat (first | apply kdn | apply kdr | apply kal)); exact BK169.out) hb); have n1_ := am (below_step (by repeat (first | (with_reducible first | exact HB.out | apply bal | apply pdn | apply bd1 | refine bst ?_ GE169.out) | exact HB.out)) hb); clear BK169; clear HB; have BK169 := n0_; have HB := n1_; clear n0_ n1_; (try clear hb); (try clear hb2); (try clear hk); (try clear hi); have hcz17_0 : w16.cell? ⟨gb169, 0, none⟩ = some (.int .i64 a0_0) := (kce BK169.out 0).trans rfl; have hcz17_1 : w16.cell? ⟨gb169, 1, none⟩ = some (.int .i64 a0_1) := (kce BK169.out 1).trans rfl; have hcz17_2 : w16.cell? ⟨gb169, 2, none⟩ = some (.int .i64 a0_2) := (kce BK169.out 2).trans rfl; have hcz17_3 : w16.cell? ⟨gb169, 3, none⟩ = some (.int .i64 a0_3) := (kce BK169.out 3).trans rfl; have hcz17_4 : w16.cell? ⟨gb169, 4, none⟩ = some (.slice A0_4 l0_4.length c0_4) := (kce BK169.out 4).trans rfl; have hfz17_0 := kfr BK169.out 0; have hfz17_1 := kfr BK169.out 1; have hfz17_2 := kfr BK169.out 2; have hfz17_3 := kfr BK169.out 3; have hfz17_4 := kfr BK169.out 4) | ((with_reducible refine gate_callee (f := 11) rfl ?_); refine goesL_ (some 20) rfl rfl Try.func11 (by kernel_rfl) rfl #[.agg #[.int .i64 a0_0, .int .i64 a0_1, .int .i64 a0_2, .int .i64 a0_3, .slice A0_4 l0_4.length c0_4]] rfl (by (try simp only [mta, mco, mni]); first | done | rfl | (simp only [lnd, lnt]; rfl)) ?_; (with_reducible refine (laws_toWide.calls k a0_0 a0_1 a0_2 a0_3 _ _ l0_4 t171 t172 t173 t174 t175 _ ?side1 ?side2 A9.out).mono ?_); (case side1 => repeat (first | exact (Kd.C_below HR0_4.out HB.out) | (with_reducible first | apply kca | apply kcn | apply kcd))); (case side2 => exact HC0_4.out); rintro e w18 ⟨v176, rfl, ho0, hb⟩; refine ⟨_, rfl, ?_⟩; have n0_ := am (Kd.R_lower ho0 (below_size (by repeat (first | (with_reducible first | exact HB.out | apply bal | apply pdn | apply bd1 | refine bst ?_ GE169.out) | exact HB.out)))); have n1_ := am (kbb (g := gb169) (o := .cells #[.int .i64 a0_0, .int .i64 a0_1, .int .i64 a0_2, .int .i64 a0_3, .slice A0_4 l0_4.length c0_4] 26 (0, 0)) (by (with_reducible repeat (first | apply kdn | apply kdr | apply kal)); exact BK169.out) hb); have n2_ := am (below_step (by repeat (first | (with_reducible first | exact HB.out | apply bal | apply pdn | apply bd1 | refine bst ?_ GE169.out) | exact HB.out)) hb); clear BK169; clear HB; have HO177 := n0_; have BK169 := n1_; have HB := n2_; clear n0_ n1_ n2_; (try clear hb); (try clear hb2); (try clear hk); (try clear hi); (try clear ho0); obtain ⟨Ao19, co19, eo19⟩ := Kd.R_slice HO177.out; subst eo19) | ((with_reducible refine gate_callee (f := 14) rfl ?_); refine goesL_ (some 23) rfl rfl Try.func14 (by kernel_rfl) rfl #[.agg #[.int .i64 t171, .int .i64 t172, .int .i64 t173, .int .i64 t174, .slice Ao19 t175.length co19], .int .i64 a1, .int .i64 a2] rfl (by (try simp only [mta, mco, mni]); first | done | rfl | (simp only [lnd, lnt]; rfl)) ?_; (with_reducible refine (spec_ReadWide.calls k t171 t172 t173 t174 _ _ t175 a1 a2 t178 t179 _ ?side1 ?side2 A10.out).mono ?_); (case side1 => repeat (first | exact (Kd.R_reads' HO177.out).2.2 | (with_reducible first | apply kca | apply kcn | apply kcd))); (case side2 => exact (Kd.R_reads' HO177.out).2.1); rintro e w20 ⟨rfl, hb⟩; refine ⟨_, rfl, ?_⟩; have n0_ := am (krb (by (with_reducible repeat (first | apply kra | apply krn | apply krd)); exact HO177.out) hb); have n1_ := am (kbb (g := gb169) (o := .cells #[.int .i64 a0_0, .int .i64 a0_1, .int .i64 a0_2, .int .i64 a0_3, .slice A0_4 l0_4.length c0_4] 26 (0, 0)) (by (with_reducible repeat (first | apply kdn | apply kdr | apply kal)); exact BK169.out) hb); have n2_ := am (below_step (by repeat (first | (with_reducible first | exact HB.out | apply bal | apply pdn | apply bd1 | refine bst ?_ GE169.out) | exact HB.out)) hb); clear HO177; clear BK169; clear HB; have HO177 := n0_; have BK169 := n1_; have HB := n2_; clear n0_ n1_ n2_; (try clear hb); (try clear hb2); (try clear hk); (try clear hi); have hcz21_0 : w20.cell? ⟨gb169, 0, none⟩ = some (.int .i64 a0_0) := (kce BK169.out 0).trans rfl; have hcz21_1 : w20.cell? ⟨gb169, 1, none⟩ = some (.int .i64 a0_1) := (kce BK169.out 1).trans rfl; have hcz21_2 : w20.cell? ⟨gb169, 2, none⟩ = some (.int .i64 a0_2) := (kce BK169.out 2).trans rfl; have hcz21_3 : w20.cell? ⟨gb169, 3, none⟩ = some (.int .i64 a0_3) := (kce BK169.out 3).trans rfl; have hcz21_4 : w20.cell? ⟨gb169, 4, none⟩ = some (.slice A0_4 l0_4.length c0_4) := (kce BK169.out 4).trans rfl; have hfz21_0 := kfr BK169.out 0; have hfz21_1 := kfr BK169.out 1; have hfz21_2 := kfr BK169.out 2; have hfz21_3 := kfr BK169.out 3; have hfz21_4 := kfr BK169.out 4) | ((with_reducible refine gate_callee (f := 11) rfl ?_); refine goesL_ (some 27) rfl rfl Try.func11 (by kernel_rfl) rfl #[.agg #[.int .i64 a0_0, .int .i64 a0_1, .int .i64 a0_2, .int .i64 a0_3, .slice A0_4 l0_4.length c0_4]] rfl (by (try simp only [mta, mco, mni]); first | done | rfl | (simp only [lnd, lnt]; rfl)) ?_; (with_reducible refine (laws_toWide.calls k a0_0 a0_1 a0_2 a0_3 _ _ l0_4 t180 t181 t182 t183 t184 _ ?side1 ?side2 A11.out).mono ?_); (case side1 => repeat (first | exact (Kd.C_below HR0_4.out HB.out) | (with_reducible first | apply kca | apply kcn | apply kcd))); (case side2 => exact HC0_4.out); rintro e w22 ⟨v185, rfl, ho0, hb⟩; refine ⟨_, rfl, ?_⟩; have n0_ := am (kre (by (with_reducible repeat (first | apply kra | apply krn | apply krd)); exact HO177.out) (Kd.R_base ho0) hb); have n1_ := am (Kd.R_lower (Kd.R_new' ho0 (Kd.R_lt (by (with_reducible repeat (first | apply kra | apply krn | apply krd)); exact HO177.out))) (below_size (by repeat (first | (with_reducible first | exact HB.out | apply bal | apply pdn | apply bd1 | refine bst ?_ GE169.out) | exact HB.out)))); have n2_ := am (kbb (g := gb169) (o := .cells #[.int .i64 a0_0, .int .i64 a0_1, .int .i64 a0_2, .int .i64 a0_3, .slice A0_4 l0_4.length c0_4] 26 (0, 0)) (by (with_reducible repeat (first | apply kdn | apply kdr | apply kal)); exact BK169.out) hb); have n3_ := am (below_step (by repeat (first | (with_reducible first | exact HB.out | apply bal | apply pdn | apply bd1 | refine bst ?_ GE169.out) | exact HB.out)) hb); clear HO177; clear BK169; clear HB; have HO177 := n0_; have HO186 := n1_; have BK169 := n2_; have HB := n3_; clear n0_ n1_ n2_ n3_; (try clear hb); (try clear hb2); (try clear hk); (try clear hi); (try clear ho0)) | ((with_reducible refine gate_dst (N := 10) rfl ?_); refine box_event ?hg (N := 10) ?hd (cs := #[.int .i64 0, .int .i64 0, .int .i64 0, .int .i64 0, .slice none 0 0]) (t := 32) ?hr ?_; (case hd => rfl); (case hg => rfl); (case hr => first | (go_simp; done) | (go_simp; rfl)); intro gb187 hg w23 hbox hb; have n0_ := am (krb (by (with_reducible repeat (first | apply kra | apply krn | apply krd)); exact HO177.out) hb); have n1_ := am (krb (by (with_reducible repeat (first | apply kra | apply krn | apply krd)); exact HO186.out) hb); have n2_ := am (kbb (g := gb169) (o := .cells #[.int .i64 a0_0, .int .i64 a0_1, .int .i64 a0_2, .int .i64 a0_3, .slice A0_4 l0_4.length c0_4] 26 (0, 0)) (by (with_reducible repeat (first | apply kdn | apply kdr | apply kal)); exact BK169.out) hb); have n3_ := am (below_step (by repeat (first | (with_reducible first | exact HB.out | apply bal | apply pdn | apply bd1 | refine bst ?_ GE169.out) | exact HB.out)) hb); have n4_ := am (hbox); have n5_ := am ((by rw [hg]; exact (below_size (by repeat (first | (with_reducible first | exact HB.out | apply bal | apply pdn | apply bd1 | refine bst ?_ GE169.out) | exact HB.out))) : w.heap.size ≤ gb187)); have n6_ := am ((by rw [hg]; exact (below_size (by repeat (first | (with_reducible first | exact HB.out | apply bal | apply pdn | apply bd1 | refine bst ?_ GE169.out) | exact HB.out))) : w.heap.size ≤ gb187)); have n7_ := am ((by rw [hg]; exact Nat.ne_of_lt (blk_lt (g := gb169) (o := .cells #[.int .i64 a0_0, .int .i64 a0_1, .int .i64 a0_2, .int .i64 a0_3, .slice A0_4 l0_4.length c0_4] 26 (0, 0)) (by (with_reducible repeat (first | apply kdn | apply kdr | apply kal)); exact BK169.out)) : gb169 ≠ gb187)); have n8_ := am ((by rw [hg]; exact Nat.ne_of_gt (blk_lt (g := gb169) (o := .cells #[.int .i64 a0_0, .int .i64 a0_1, .int .i64 a0_2, .int .i64 a0_3, .slice A0_4 l0_4.length c0_4] 26 (0, 0)) (by (with_reducible repeat (first | apply kdn | apply kdr | apply kal)); exact BK169.out)) : gb187 ≠ gb169)); clear HO177; clear HO186; clear BK169; clear HB; have HO177 := n0_; have HO186 := n1_; have BK169 := n2_; have HB := n3_; have BK187 := n4_; have GW187 := n5_; have GE187 := n6_; have NB169_187 := n7_; have NB187_169 := n8_; clear n0_ n1_ n2_ n3_ n4_ n5_ n6_ n7_ n8_; clear hb hbox hg; have hnb24 := NB187_169.out; have hnc24 := NB169_187.out; have hcz25_0 : w23.cell? ⟨gb187, 0, none⟩ = some (.int .i64 0) := (kce BK187.out 0).trans rfl; have hcz25_1 : w23.cell? ⟨gb187, 1, none⟩ = some (.int .i64 0) := (kce BK187.out 1).trans rfl; have hcz25_2 : w23.cell? ⟨gb187, 2, none⟩ = some (.int .i64 0) := (kce BK187.out 2).trans rfl; have hcz25_3 : w23.cell? ⟨gb187, 3, none⟩ = some (.int .i64 0) := (kce BK187.out 3).trans rfl; have hcz25_4 : w23.cell? ⟨gb187, 4, none⟩ = some (.slice none 0 0) := (kce BK187.out 4).trans rfl; have hfz25_0 := kfr BK187.out 0; have hfz25_1 := kfr BK187.out 1; have hfz25_2 := kfr BK187.out 2; have hfz25_3 := kfr BK187.out 3; have hfz25_4 := kfr BK187.out 4; obtain ⟨Ao26, co26, eo26⟩ := Kd.R_slice HO186.out; subst eo26) | ((with_reducible refine gate_callee (f := 15) rfl ?_); refine goesL_ (some 32) rfl rfl Try.func15 (by kernel_rfl) rfl #[.agg #[.int .i64 t180, .int .i64 t181, .int .i64 t182, .int .i64 t183, .slice Ao26 t184.length co26], .int .i64 a1, .int .i64 a2] rfl (by (try simp only [mta, mco, mni]); first | done | rfl | (simp only [lnd, lnt]; rfl)) ?_; (with_reducible refine (impl_ReadWide.calls t180 t181 t182 t183 _ _ t184 a1 a2 t188 t189 _ ?side1 ?side2 A12.out).mono ?_); (case side1 => refine (Kd.R_reads' (e := 9) (base := w.heap.size) (ok := fun k_ => (True ∧ some k_ ≠ (.slice Ao19 t175.length co19 : Value).ownBlock)) (n := t184.length) (c := co26) ?_).2.2; exact (by (with_reducible repeat (first | apply kra | apply krn | apply krd)); exact (Kd.R_mono (kfa (p := ⟨gb187, 4, none⟩) (kfa (p := ⟨gb187, 3, none⟩) (kfa (p := ⟨gb187, 2, none⟩) (kfa (p := ⟨gb187, 1, none⟩) (kfa (p := ⟨gb187, 0, none⟩) (Kd.R_types HO186.out BK187.out (by decide)) (fun _ hk => hk.2) (.int .i64 t180)) (fun _ hk => hk.2) (.int .i64 t181)) (fun _ hk => hk.2) (.int .i64 t182)) (fun _ hk => hk.2) (.int .i64 t183)) (fun _ hk => hk.2) (.slice Ao26 t184.length co26)) (fun _ h_ => h_.1)))); (case side2 => exact (Kd.R_reads' HO186.out).2.1); rintro e w27 ⟨rfl, hb⟩; refine ⟨_, rfl, ?_⟩; have n0_ := am (krb (by (with_reducible repeat (first | apply kra | apply krn | apply krd)); exact (Kd.R_mono (kfa (p := ⟨gb187, 4, none⟩) (kfa (p := ⟨gb187, 3, none⟩) (kfa (p := ⟨gb187, 2, none⟩) (kfa (p := ⟨gb187, 1, none⟩) (kfa (p := ⟨gb187, 0, none⟩) (Kd.R_types HO177.out BK187.out (by decide)) (fun _ hk => hk.2) (.int .i64 t180)) (fun _ hk => hk.2) (.int .i64 t181)) (fun _ hk => hk.2) (.int .i64 t182)) (fun _ hk => hk.2) (.int .i64 t183)) (fun _ hk => hk.2) (.slice Ao26 t184.length co26)) (fun _ h_ => h_.1))) hb); have n1_ := am (krb (by (with_reducible repeat (first | apply kra | apply krn | apply krd)); exact (Kd.R_mono (kfa (p := ⟨gb187, 4, none⟩) (kfa (p := ⟨gb187, 3, none⟩) (kfa (p := ⟨gb187, 2, none⟩) (kfa (p := ⟨gb187, 1, none⟩) (kfa (p := ⟨gb187, 0, none⟩) (Kd.R_types HO186.out BK187.out (by decide)) (fun _ hk => hk.2) (.int .i64 t180)) (fun _ hk => hk.2) (.int .i64 t181)) (fun _ hk => hk.2) (.int .i64 t182)) (fun _ hk => hk.2) (.int .i64 t183)) (fun _ hk => hk.2) (.slice Ao26 t184.length co26)) (fun _ h_ => h_.1))) hb); have n2_ := am (kbb (g := gb169) (o := .cells #[.int .i64 a0_0, .int .i64 a0_1, .int .i64 a0_2, .int .i64 a0_3, .slice A0_4 l0_4.length c0_4] 26 (0, 0)) (by (with_reducible repeat (first | apply kdn | apply kdr | apply kal)); refine blk_far ?_ NB169_187.out _; (with_reducible repeat (first | apply kdn | apply kdr | apply kal)); refine blk_far ?_ NB169_187.out _; (with_reducible repeat (first | apply kdn | apply kdr | apply kal)); refine blk_far ?_ NB169_187.out _; (with_reducible repeat (first | apply kdn | apply kdr | apply kal)); refine blk_far ?_ NB169_187.out _; (with_reducible repeat (first | apply kdn | apply kdr | apply kal)); refine blk_far ?_ NB169_187.out _; (with_reducible repeat (first | apply kdn | apply kdr | apply kal)); exact BK169.out) hb); have n3_ := am (kbb (g := gb187) (o := .cells #[.int .i64 t180, .int .i64 t181, .int .i64 t182, .int .i64 t183, .slice Ao26 t184.length co26] 32 (0, 0)) (by (with_reducible repeat (first | apply kdn | apply kdr | apply kal)); refine blk_put (cs := #[.int .i64 t180, .int .i64 t181, .int .i64 t182, .int .i64 t183, .slice none 0 0]) ?_ 4 _ rfl; (with_reducible repeat (first | apply kdn | apply kdr | apply kal)); refine blk_put (cs := #[.int .i64 t180, .int .i64 t181, .int .i64 t182, .int .i64 0, .slice none 0 0]) ?_ 3 _ rfl; (with_reducible repeat (first | apply kdn | apply kdr | apply kal)); refine blk_put (cs := #[.int .i64 t180, .int .i64 t181, .int .i64 0, .int .i64 0, .slice none 0 0]) ?_ 2 _ rfl; (with_reducible repeat (first | apply kdn | apply kdr | apply kal)); refine blk_put (cs := #[.int .i64 t180, .int .i64 0, .int .i64 0, .int .i64 0, .slice none 0 0]) ?_ 1 _ rfl; (with_reducible repeat (first | apply kdn | apply kdr | apply kal)); refine blk_put (cs := #[.int .i64 0, .int .i64 0, .int .i64 0, .int .i64 0, .slice none 0 0]) ?_ 0 _ rfl; (with_reducible repeat (first | apply kdn | apply kdr | apply kal)); exact BK187.out) hb); have n4_ := am (below_step (by repeat (first | (with_reducible first | exact HB.out | apply bal | apply pdn | apply bd1 | refine bst ?_ GE169.out | refine bst ?_ GE187.out) | exact HB.out)) hb); clear HO177; clear HO186; clear BK169; clear BK187; clear HB; have HO177 := n0_; have HO186 := n1_; have BK169 := n2_; have BK187 := n3_; have HB := n4_; clear n0_ n1_ n2_ n3_ n4_; (try clear hb); (try clear hb2); (try clear hk); (try clear hi)))
  (try simp only [Act.put, sit, scz, scs])
  go_cut [42] (fun v42 wc => ∃ (kq : Nat) (x42_12 : Bool), v42 = .bool x42_12 ∧ Aside0 (laws_FnExactReadWide.j0 kq x42_12 a0_0 a0_1 a0_2 a0_3 l0_4 t180 t181 t182 t183 t184 = some r) ∧ Aside0 (kq ≤ k) ∧ Aside0 (Kd.R Kd.string 9 wc w.heap.size (fun _ => True) (.slice Ao26 t184.length co26) t184) ∧ Aside0 (wc.heap[gb169]? = some (.cells #[.int .i64 a0_0, .int .i64 a0_1, .int .i64 a0_2, .int .i64 a0_3, (.slice A0_4 l0_4.length c0_4)] 26 (0, 0))) ∧ Aside0 (wc.heap[gb187]? = some (.cells #[.int .i64 t180, .int .i64 t181, .int .i64 t182, .int .i64 t183, (.slice Ao26 t184.length co26)] 32 (0, 0))) ∧ Aside0 (Below w.heap.size w wc))
  case first =>
   have H := HC13.out
   clear HC13
   by_cases c28 : t188.toList = t178.toList
   ·rw [if_pos c28] at H
    have c28b0 : (t188.toList == t178.toList) = true := beq_iff_eq.mpr c28
    have c28b1 : (t188.toList != t178.toList) = false := bne_eq_false_iff_eq.mpr c28
    clear c28
    (first | rw [c28b0] | (simp only [i64_w, i32_w]; rw [c28b0]) | skip)
    have H' := am H
    clear H
    go_wp2
    go_meet
    case rel => exact ⟨_, ((t189 != t179)), (by first | rfl | (simp; done) | (simp [*]; done)), H', ⟨by first | omega | exact Nat.le_refl _⟩, ⟨by (with_reducible repeat (first | apply kra | apply krn | apply krd)); exact Kd.R_mono HO186.out (fun _ hk => trivial)⟩, ⟨by (with_reducible repeat (first | apply kdn | apply kdr | apply kal)); exact BK169.out⟩, ⟨by (with_reducible repeat (first | apply kdn | apply kdr | apply kal)); exact BK187.out⟩, ⟨by repeat (first | (with_reducible first | exact HB.out | apply bal | apply pdn | apply bd1 | refine bst ?_ GE169.out | refine bst ?_ GE187.out) | exact HB.out)⟩⟩
   ·rw [if_neg c28] at H
    have c28b0 : (t188.toList == t178.toList) = false := beq_eq_false_iff_ne.mpr c28
    have c28b1 : (t188.toList != t178.toList) = true := bne_iff_ne.mpr c28
    (first | rw [c28b0] | (simp only [i64_w, i32_w]; rw [c28b0]) | skip)
    have H' := am H
    clear H
    go_wp2
    go_meet
    case rel => exact ⟨_, (true), (by first | rfl | (simp; done) | (simp [*]; done)), H', ⟨by first | omega | exact Nat.le_refl _⟩, ⟨by (with_reducible repeat (first | apply kra | apply krn | apply krd)); exact Kd.R_mono HO186.out (fun _ hk => trivial)⟩, ⟨by (with_reducible repeat (first | apply kdn | apply kdr | apply kal)); exact BK169.out⟩, ⟨by (with_reducible repeat (first | apply kdn | apply kdr | apply kal)); exact BK187.out⟩, ⟨by repeat (first | (with_reducible first | exact HB.out | apply bal | apply pdn | apply bd1 | refine bst ?_ GE169.out | refine bst ?_ GE187.out) | exact HB.out)⟩⟩
  case rest =>
   clear HC13
   obtain ⟨kq, x42_12, rfl, HA, HJ12, HO_188004, BK169, BK187, HB⟩ := hcut
   cases kq with
   | zero => exact absurd HA.out (by simp [laws_FnExactReadWide.j0])
   | succ kj12 =>
    have H := HA.out
    clear HA
    simp only [laws_FnExactReadWide.j0] at H
    by_cases c29 : x42_12 = true
    ·subst c29
     have H1 : (some false) = some r := by rw [if_pos rfl] at H; exact H
     clear H
     have H := H1
     clear H1
     exact absurd ((Option.some.inj H).trans hT.out) (by decide)
    ·replace c29 := Bool.eq_false_iff.mpr c29
     subst c29
     have H1 : ((laws_toWide.f kj12 a0_0 a0_1 a0_2 a0_3 l0_4).bind fun bt190 => ((laws_eqWide.f kj12 t180 t181 t182 t183 t184 bt190.1 bt190.2.1 bt190.2.2.1 bt190.2.2.2.1 bt190.2.2.2.2).bind fun t197 => (if t197 = true then (some true) else (some false)))) = some r := by rw [if_neg (show ¬ (false = true) by decide)] at H; exact H
     clear H
     have H := H1
     clear H1
     replace H := Option.bind_eq_some_iff.mp H
     obtain ⟨⟨t190, t191, t192, t193, t194⟩, A300, H⟩ := H
     replace H : ((laws_eqWide.f kj12 t180 t181 t182 t183 t184 t190 t191 t192 t193 t194).bind fun t197 => (if t197 = true then (some true) else (some false))) = some r := H
     have A30 := am A300
     clear A300
     replace H := Option.bind_eq_some_iff.mp H
     obtain ⟨t197, A310, H⟩ := H
     replace H : (if t197 = true then (some true) else (some false)) = some r := H
     have A31 := am A310
     clear A310
     by_cases c32 : t197 = true
     ·subst c32
      have H1 : (some true) = some r := by rw [if_pos rfl] at H; exact H
      clear H
      have H := H1
      clear H1
      obtain rfl := Option.some.inj H
      try go_wp2
      have n0_ := am (krd HO_188004.out)
      have n1_ := am (kdr BK169.out)
      have n2_ := am (kdr BK187.out)
      have n3_ := am (bd1 HB.out)
      clear HO_188004
      clear BK169
      clear BK187
      clear HB
      have HO_188004 := n0_
      have BK169 := n1_
      have BK187 := n2_
      have HB := n3_
      clear n0_ n1_ n2_ n3_
      refine start_ (n := 5) (S := fun w' => w'.cell? ⟨gb187, 0, none⟩ = some (.int .i64 t180) ∧ w'.cell? ⟨gb187, 1, none⟩ = some (.int .i64 t181) ∧ w'.cell? ⟨gb187, 2, none⟩ = some (.int .i64 t182) ∧ w'.cell? ⟨gb187, 3, none⟩ = some (.int .i64 t183) ∧ w'.cell? ⟨gb187, 4, none⟩ = some (.slice Ao26 t184.length co26) ∧ w'.cell? ⟨gb169, 0, none⟩ = some (.int .i64 a0_0) ∧ w'.cell? ⟨gb169, 1, none⟩ = some (.int .i64 a0_1) ∧ w'.cell? ⟨gb169, 2, none⟩ = some (.int .i64 a0_2) ∧ w'.cell? ⟨gb169, 3, none⟩ = some (.int .i64 a0_3) ∧ w'.cell? ⟨gb169, 4, none⟩ = some (.slice A0_4 l0_4.length c0_4)) (ds := []) #[false, false, false, false, false] (by kernel_rfl) rfl rfl ⟨(kce BK187.out 0).trans rfl, (kce BK187.out 1).trans rfl, (kce BK187.out 2).trans rfl, (kce BK187.out 3).trans rfl, (kce BK187.out 4).trans rfl, (kce BK169.out 0).trans rfl, (kce BK169.out 1).trans rfl, (kce BK169.out 2).trans rfl, (kce BK169.out 3).trans rfl, (kce BK169.out 4).trans rfl⟩ (fun hHeld => ?_)
      generalize wc.drew = w33 at HO_188004 BK169 BK187 HB hHeld ⊢
      refine take_ (i := 0) (N := some 43) (v := ?_) (a' := ?_) #[true, false, false, false, false] rfl rfl (by kernel_rfl) (fun _ _ _ h => h) (Or.inl ⟨by rfl, ?_⟩) hHeld ?_ ?_
      rotate_left
      ·rintro w' ⟨s0, s1, s2, s3, s4, s5, s6, s7, s8, s9⟩
       go_simp
       with_reducible rfl
      rotate_left
      ·simp only [Act.put, sit, scz, scs, i64_w, i32_w]
       rfl
      refine take_ (i := 1) (N := some 44) (v := ?_) (a' := ?_) #[true, true, false, false, false] rfl rfl (by kernel_rfl) (fun _ _ _ h => h) (Or.inl ⟨by rfl, ?_⟩) hHeld ?_ ?_
      rotate_left
      ·rintro w' ⟨s0, s1, s2, s3, s4, s5, s6, s7, s8, s9⟩
       go_simp
       with_reducible rfl
      rotate_left
      ·simp only [Act.put, sit, scz, scs, i64_w, i32_w]
       rfl
      refine one_ (i := 2) (N := some 45) #[true, true, true, false, false] rfl rfl (by kernel_rfl) (by decide) (fun K hK => ?_)
      refine goes_ Try.func11 (by kernel_rfl) rfl #[.agg #[.int .i64 a0_0, .int .i64 a0_1, .int .i64 a0_2, .int .i64 a0_3, .slice A0_4 l0_4.length c0_4]] (by rfl) rfl rfl (by (try simp only [mta, mco, mni]); first | done | rfl | (simp only [lnd, lnt]; rfl)) ?_
      with_reducible refine (laws_toWide.calls kj12 a0_0 a0_1 a0_2 a0_3 _ _ l0_4 t190 t191 t192 t193 t194 _ ?side1 ?side2 A30.out).mono ?_
      (case side1 => repeat (first | exact (Kd.C_below HR0_4.out HB.out) | (with_reducible first | apply kca | apply kcn | apply kcd)))
      (case side2 => exact HC0_4.out)
      rintro e w34 ⟨v195, rfl, ho0, hb⟩
      refine ⟨_, rfl, ?_⟩
      have n0_ := am (kre (by (with_reducible repeat (first | apply kra | apply krn | apply krd)); exact HO_188004.out) (Kd.R_base ho0) hb)
      have n1_ := am (Kd.R_lower (Kd.R_new' ho0 (Kd.R_lt (by (with_reducible repeat (first | apply kra | apply krn | apply krd)); exact HO_188004.out))) (below_size (by repeat (first | (with_reducible first | exact HB.out | apply bal | apply pdn | apply bd1 | refine bst ?_ GE169.out | refine bst ?_ GE187.out) | exact HB.out))))
      have n2_ := am (kbb (g := gb169) (o := .cells #[.int .i64 a0_0, .int .i64 a0_1, .int .i64 a0_2, .int .i64 a0_3, .slice A0_4 l0_4.length c0_4] 26 (0, 0)) (by (with_reducible repeat (first | apply kdn | apply kdr | apply kal)); exact BK169.out) hb)
      have n3_ := am (kbb (g := gb187) (o := .cells #[.int .i64 t180, .int .i64 t181, .int .i64 t182, .int .i64 t183, .slice Ao26 t184.length co26] 32 (0, 0)) (by (with_reducible repeat (first | apply kdn | apply kdr | apply kal)); exact BK187.out) hb)
      have n4_ := am (below_step (by repeat (first | (with_reducible first | exact HB.out | apply bal | apply pdn | apply bd1 | refine bst ?_ GE169.out | refine bst ?_ GE187.out) | exact HB.out)) hb)
      clear HO_188004
      clear BK169
      clear BK187
      clear HB
      have HO_188004 := n0_
      have HO196 := n1_
      have BK169 := n2_
      have BK187 := n3_
      have HB := n4_
      clear n0_ n1_ n2_ n3_ n4_
      (try clear ho0)
      obtain ⟨Ao35, co35, eo35⟩ := Kd.R_slice HO196.out
      (first | subst eo35 | (injection eo35 with f1_ f2_ f3_; have f4_ := f1_.symm; have f5_ := f3_.symm; clear f1_ f2_ f3_; subst f4_; subst f5_))
      refine hK.out _ _ ⟨(kce BK187.out 0).trans rfl, (kce BK187.out 1).trans rfl, (kce BK187.out 2).trans rfl, (kce BK187.out 3).trans rfl, (kce BK187.out 4).trans rfl, (kce BK169.out 0).trans rfl, (kce BK169.out 1).trans rfl, (kce BK169.out 2).trans rfl, (kce BK169.out 3).trans rfl, (kce BK169.out 4).trans rfl⟩ (fun hHeld => ?_)
      clear hK K
      refine norm_ (a' := ?_) ?_ ?_
      rotate_left
      ·show Act.put _ (some 45) _ = _
       simp only [Act.put, sit, scz, scs, i64_w, i32_w]
       rfl
      refine one_ (i := 3) (N := some 46) #[true, true, true, true, false] rfl rfl (by kernel_rfl) (by decide) (fun K hK => ?_)
      refine goes_ Try.func13 (by kernel_rfl) rfl #[.agg #[.int .i64 t180, .int .i64 t181, .int .i64 t182, .int .i64 t183, .slice Ao26 t184.length co26], .agg #[.int .i64 t190, .int .i64 t191, .int .i64 t192, .int .i64 t193, .slice Ao35 t194.length co35]] (by rfl) rfl rfl (by (try simp only [mta, mco, mni]); first | done | rfl | (simp only [lnd, lnt]; rfl)) ?_
      with_reducible refine (laws_eqWide.calls kj12 t180 t181 t182 t183 _ _ t184 t190 t191 t192 t193 _ _ t194 true _ ?side1 ?side2 ?side3 ?side4 A31.out).mono ?_
      (case side1 => repeat (first | exact (Kd.R_reads' HO_188004.out).2.2 | (with_reducible first | apply kca | apply kcn | apply kcd)))
      (case side2 => exact (Kd.R_reads' HO_188004.out).2.1)
      (case side3 => repeat (first | exact (Kd.R_reads' HO196.out).2.2 | (with_reducible first | apply kca | apply kcn | apply kcd)))
      (case side4 => exact (Kd.R_reads' HO196.out).2.1)
      rintro e w36 ⟨rfl, hb⟩
      refine ⟨_, rfl, ?_⟩
      have n0_ := am (krb (by (with_reducible repeat (first | apply kra | apply krn | apply krd)); exact HO_188004.out) hb)
      have n1_ := am (krb (by (with_reducible repeat (first | apply kra | apply krn | apply krd)); exact HO196.out) hb)
      have n2_ := am (kbb (g := gb169) (o := .cells #[.int .i64 a0_0, .int .i64 a0_1, .int .i64 a0_2, .int .i64 a0_3, .slice A0_4 l0_4.length c0_4] 26 (0, 0)) (by (with_reducible repeat (first | apply kdn | apply kdr | apply kal)); exact BK169.out) hb)
      have n3_ := am (kbb (g := gb187) (o := .cells #[.int .i64 t180, .int .i64 t181, .int .i64 t182, .int .i64 t183, .slice Ao26 t184.length co26] 32 (0, 0)) (by (with_reducible repeat (first | apply kdn | apply kdr | apply kal)); exact BK187.out) hb)
      have n4_ := am (below_step (by repeat (first | (with_reducible first | exact HB.out | apply bal | apply pdn | apply bd1 | refine bst ?_ GE169.out | refine bst ?_ GE187.out) | exact HB.out)) hb)
      clear HO_188004
      clear HO196
      clear BK169
      clear BK187
      clear HB
      have HO_188004 := n0_
      have HO196 := n1_
      have BK169 := n2_
      have BK187 := n3_
      have HB := n4_
      clear n0_ n1_ n2_ n3_ n4_
      refine hK.out _ _ ⟨(kce BK187.out 0).trans rfl, (kce BK187.out 1).trans rfl, (kce BK187.out 2).trans rfl, (kce BK187.out 3).trans rfl, (kce BK187.out 4).trans rfl, (kce BK169.out 0).trans rfl, (kce BK169.out 1).trans rfl, (kce BK169.out 2).trans rfl, (kce BK169.out 3).trans rfl, (kce BK169.out 4).trans rfl⟩ (fun hHeld => ?_)
      clear hK K
      refine norm_ (a' := ?_) ?_ ?_
      rotate_left
      ·show Act.put _ (some 46) _ = _
       simp only [Act.put, sit, scz, scs, i64_w, i32_w]
       rfl
      refine pure_ (i := 4) (N := some 47) (v := ?_) (a' := ?_) #[true, true, true, true, true] rfl rfl (by kernel_rfl) (fun _ _ _ h => h) (Or.inl ⟨by rfl, ?_⟩) ?_ ?_
      rotate_left
      ·intro w'
       go_simp
       with_reducible rfl
      rotate_left
      ·simp only [Act.put, sit, scz, scs, i64_w, i32_w]
       rfl
      refine done_ (by kernel_rfl) ?_
      try go_wp2
      go_ret
      exact ⟨by first | rfl | (simp [errW_none, errW_some] <;> rfl) | (simp [*, errW_none, errW_some] <;> rfl), by repeat (first | (with_reducible first | exact HB.out | apply bal | apply pdn | apply bd1 | refine bst ?_ GE169.out | refine bst ?_ GE187.out) | exact HB.out)⟩
     ·replace c32 := Bool.eq_false_iff.mpr c32
      subst c32
      have H1 : (some false) = some r := by rw [if_neg (show ¬ (false = true) by decide)] at H; exact H
      clear H
      have H := H1
      clear H1
      exact absurd ((Option.some.inj H).trans hT.out) (by decide)

end Go.Proofs.Ytmpakjgbbjkacaa.MFnExactReadWide
