-- Written by a program of this session (wip/tools/myprint.py) over the kit's print: it is not the kit's print.
import Derived.Test.YthphhklbliambaaExtra
import Derived.Test.YthphhklbliambaaMFnExactGetOpx0
import Derived.Test.YthphhklbliambaaMFnExactGetOpx3
import Derived.Test.YthphhklbliambaaMFnExactGetOpx5
namespace Go.Proofs.Ythphhklbliambaa.MFnExactGetOp
open Go.RowKit Go.Proofs.YthphhklbliambaaW.PrintWords Go.Proofs.YthphhklbliambaaW.PrintLast Go.Proofs.YthphhklbliambaaW.PrintMore
open List renaming map_toArray → mta, map_cons → mco, map_nil → mni, length_drop → lnd, length_take → lnt
attribute [local go_sem] max2_int min2_int max_two min_two max_three min_three max_four min_four   -- for this text's walks alone
set_option linter.unusedVariables false
set_option linter.unusedSimpArgs false

/-! ### laws_FnExactGetOp: function 10 -/
def laws_FnExactGetOp.f (k : Nat) (a0 : ByteArray) : Option (Bool) := if (a0.size : Int) > 1048576 then (some true) else ((spec_GetOp.f k a0).bind fun bt179 => ((impl_GetOp.f k a0).bind fun bt185 => ((laws_eqOp.f bt185.1 bt185.2.1 bt185.2.2.1 bt179.1 bt179.2.1 bt179.2.2.1).bind fun t191 => (if t191 = true then (if bt185.2.2.2.1 = bt179.2.2.2.1 then (if (bt185.2.2.2.2 != bt179.2.2.2.2) = true then (some false) else (some true)) else (some false)) else (some false)))))
theorem laws_FnExactGetOp.mono : ∀ a0 k, LeO (laws_FnExactGetOp.f k a0) (laws_FnExactGetOp.f (k + 1) a0) := by
 intro a0 k
 unfold laws_FnExactGetOp.f
 repeat' first
   | (with_reducible exact impl_GetOp.mono _ _)
   | (with_reducible exact spec_GetOp.mono _ _)
   | (with_reducible exact LeO.refl _)
   | (with_reducible exact LeO.none _)
   | (with_reducible refine LeO.ite ?_ ?_)
   | (with_reducible refine LeO.bind ?_ (fun _ => ?_))
   | exact impl_GetOp.mono _ _
   | exact spec_GetOp.mono _ _
   | exact LeO.none _
   | refine LeO.ite ?_ ?_
   | refine LeO.bind ?_ (fun _ => ?_)
set_option maxHeartbeats 8000000 in
set_option maxRecDepth 100000 in
theorem laws_FnExactGetOp.calls (k : Nat) (a0 : ByteArray) (r : Bool) (w : World) (hT0 : r = true) (h : laws_FnExactGetOp.f k a0 = some r) :
  Calls Try.prog 10 #[.string a0] w fun e w' => e = .returned (.bool r) ∧ Below w.heap.size w w' := by
 have hT := am hT0
 clear hT0
 have hu60 := Try.underlying60
 have HB := am (Below.refl w.heap.size w)
 have H : (if (a0.size : Int) > 1048576 then (some true) else ((spec_GetOp.f k a0).bind fun bt179 => ((impl_GetOp.f k a0).bind fun bt185 => ((laws_eqOp.f bt185.1 bt185.2.1 bt185.2.2.1 bt179.1 bt179.2.1 bt179.2.2.1).bind fun t191 => (if t191 = true then (if bt185.2.2.2.1 = bt179.2.2.2.1 then (if (bt185.2.2.2.2 != bt179.2.2.2.2) = true then (some false) else (some true)) else (some false)) else (some false)))))) = some r := h
 clear h
 by_cases c2 : (a0.size : Int) > 1048576
 ·rw [if_pos c2] at H
  have c2b0 : decide (1048576 < (a0.size : Int)) = true := decide_eq_true c2
  have c2b1 : decide (1048576 < a0.size) = true := decide_eq_true (by omega)
  clear c2
  obtain rfl := Option.some.inj H
  go_enter Try.func10, Try.ntmps10
  go_wp2
  go_ret
  exact ⟨by first | rfl | (simp [errW_none, errW_some] <;> rfl) | (simp [*, errW_none, errW_some] <;> rfl), by repeat (first | (with_reducible first | exact HB.out | apply bal | apply pdn | apply bd1) | exact HB.out)⟩
 ·rw [if_neg c2] at H
  have c2b0 : decide (1048576 < (a0.size : Int)) = false := decide_eq_false c2
  have c2b1 : decide (1048576 < a0.size) = false := decide_eq_false (by omega)
  clear c2
  replace H := Option.bind_eq_some_iff.mp H
  obtain ⟨⟨t179, t180, t181, t182, t183⟩, A30, H⟩ := H
  replace H : ((impl_GetOp.f k a0).bind fun bt185 => ((laws_eqOp.f bt185.1 bt185.2.1 bt185.2.2.1 t179 t180 t181).bind fun t191 => (if t191 = true then (if bt185.2.2.2.1 = t182 then (if (bt185.2.2.2.2 != t183) = true then (some false) else (some true)) else (some false)) else (some false)))) = some r := H
  have A3 := am A30
  clear A30
  replace H := Option.bind_eq_some_iff.mp H
  obtain ⟨⟨t185, t186, t187, t188, t189⟩, A40, H⟩ := H
  replace H : ((laws_eqOp.f t185 t186 t187 t179 t180 t181).bind fun t191 => (if t191 = true then (if t188 = t182 then (if (t189 != t183) = true then (some false) else (some true)) else (some false)) else (some false))) = some r := H
  have A4 := am A40
  clear A40
  replace H := Option.bind_eq_some_iff.mp H
  obtain ⟨t191, A50, H⟩ := H
  replace H : (if t191 = true then (if t188 = t182 then (if (t189 != t183) = true then (some false) else (some true)) else (some false)) else (some false)) = some r := H
  have A5 := am A50
  clear A50
  by_cases c6 : t191 = true
  ·subst c6
   have H1 : (if t188 = t182 then (if (t189 != t183) = true then (some false) else (some true)) else (some false)) = some r := by rw [if_pos rfl] at H; exact H
   clear H
   have H := H1
   clear H1
   by_cases c7 : t188 = t182
   ·rw [if_pos c7] at H
    have c7b0 : (t188 == t182) = true := beq_iff_eq.mpr c7
    have c7b1 : (t188 != t182) = false := bne_eq_false_iff_eq.mpr c7
    clear c7
    by_cases c8 : (t189 != t183) = true
    ·rw [if_pos c8] at H
     have c8b0 : (t189 != t183) = true := c8
     (try (have c8b1 : decide (t189 = t183) = false := by simpa using c8))
     (try (have c8b2 : (t189 == t183) = false := by simpa using c8))
     (try (have c8b3 : ¬ (t189 = t183) := by simpa using c8))
     clear c8
     exact absurd ((Option.some.inj H).trans hT.out) (by decide)
    ·rw [if_neg c8] at H
     have c8b0 : (t189 != t183) = false := by simpa using c8
     (try (have c8b1 : decide (t189 = t183) = true := by simpa using c8))
     (try (have c8b2 : (t189 == t183) = true := by simpa using c8))
     clear c8
     obtain rfl := Option.some.inj H
     go_enter Try.func10, Try.ntmps10
     go_wp2_with (first | ((with_reducible refine gate_callee (f := 40) rfl ?_); refine goesL_ (some 14) rfl rfl Try.func40 (by kernel_rfl) rfl #[.string a0] rfl (by (try simp only [mta, mco, mni]); first | done | rfl | (simp only [lnd, lnt]; rfl)) ?_; (with_reducible refine (spec_GetOp.calls k a0 t179 t180 t181 t182 t183 _ A3.out).mono ?_); rintro e w9 ⟨rfl, hb⟩; refine ⟨_, rfl, ?_⟩; have n0_ := am (below_step (by repeat (first | (with_reducible first | exact HB.out | apply bal | apply pdn | apply bd1) | exact HB.out)) hb); clear HB; have HB := n0_; clear n0_; (try clear hb); (try clear hb2); (try clear hk); (try clear hi)) | ((with_reducible refine gate_dst (N := 3) rfl ?_); refine box_event ?hg (N := 3) ?hd (cs := #[.int .i64 0, .int .i64 0, .string (⟨#[]⟩ : ByteArray)]) (t := 60) ?hr ?_; (case hd => rfl); (case hg => rfl); (case hr => first | (go_simp; done) | (go_simp; rfl)); intro gb184 hg w10 hbox hb; have n0_ := am (below_step (by repeat (first | (with_reducible first | exact HB.out | apply bal | apply pdn | apply bd1) | exact HB.out)) hb); have n1_ := am (hbox); have n2_ := am ((by rw [hg]; exact (below_size (by repeat (first | (with_reducible first | exact HB.out | apply bal | apply pdn | apply bd1) | exact HB.out))) : w.heap.size ≤ gb184)); have n3_ := am ((by rw [hg]; exact (below_size (by repeat (first | (with_reducible first | exact HB.out | apply bal | apply pdn | apply bd1) | exact HB.out))) : w.heap.size ≤ gb184)); clear HB; have HB := n0_; have BK184 := n1_; have GW184 := n2_; have GE184 := n3_; clear n0_ n1_ n2_ n3_; clear hb hbox hg; have hcz11_0 : w10.cell? ⟨gb184, 0, none⟩ = some (.int .i64 0) := (kce BK184.out 0).trans rfl; have hcz11_1 : w10.cell? ⟨gb184, 1, none⟩ = some (.int .i64 0) := (kce BK184.out 1).trans rfl; have hcz11_2 : w10.cell? ⟨gb184, 2, none⟩ = some (.string (⟨#[]⟩ : ByteArray)) := (kce BK184.out 2).trans rfl; have hfz11_0 := kfr BK184.out 0; have hfz11_1 := kfr BK184.out 1; have hfz11_2 := kfr BK184.out 2) | ((with_reducible refine gate_callee (f := 41) rfl ?_); refine goesL_ (some 20) rfl rfl Try.func41 (by kernel_rfl) rfl #[.string a0] rfl (by (try simp only [mta, mco, mni]); first | done | rfl | (simp only [lnd, lnt]; rfl)) ?_; (with_reducible refine (impl_GetOp.calls k a0 t185 t186 t187 t188 t189 _ A4.out).mono ?_); rintro e w12 ⟨rfl, hb⟩; refine ⟨_, rfl, ?_⟩; have n0_ := am (kbb (g := gb184) (o := .cells #[.int .i64 t179, .int .i64 t180, .string t181] 60 (0, 0)) (by (with_reducible repeat (first | apply kdn | apply kdr | apply kal)); refine blk_put (cs := #[.int .i64 t179, .int .i64 t180, .string (⟨#[]⟩ : ByteArray)]) ?_ 2 _ rfl; (with_reducible repeat (first | apply kdn | apply kdr | apply kal)); refine blk_put (cs := #[.int .i64 t179, .int .i64 0, .string (⟨#[]⟩ : ByteArray)]) ?_ 1 _ rfl; (with_reducible repeat (first | apply kdn | apply kdr | apply kal)); refine blk_put (cs := #[.int .i64 0, .int .i64 0, .string (⟨#[]⟩ : ByteArray)]) ?_ 0 _ rfl; (with_reducible repeat (first | apply kdn | apply kdr | apply kal)); exact BK184.out) hb); have n1_ := am (below_step (by repeat (first | (with_reducible first | exact HB.out | apply bal | apply pdn | apply bd1 | refine bst ?_ GE184.out) | exact HB.out)) hb); clear BK184; clear HB; have BK184 := n0_; have HB := n1_; clear n0_ n1_; (try clear hb); (try clear hb2); (try clear hk); (try clear hi)) | ((with_reducible refine gate_dst (N := 6) rfl ?_); refine box_event ?hg (N := 6) ?hd (cs := #[.int .i64 0, .int .i64 0, .string (⟨#[]⟩ : ByteArray)]) (t := 60) ?hr ?_; (case hd => rfl); (case hg => rfl); (case hr => first | (go_simp; done) | (go_simp; rfl)); intro gb190 hg w13 hbox hb; have n0_ := am (kbb (g := gb184) (o := .cells #[.int .i64 t179, .int .i64 t180, .string t181] 60 (0, 0)) (by (with_reducible repeat (first | apply kdn | apply kdr | apply kal)); exact BK184.out) hb); have n1_ := am (below_step (by repeat (first | (with_reducible first | exact HB.out | apply bal | apply pdn | apply bd1 | refine bst ?_ GE184.out) | exact HB.out)) hb); have n2_ := am (hbox); have n3_ := am ((by rw [hg]; exact (below_size (by repeat (first | (with_reducible first | exact HB.out | apply bal | apply pdn | apply bd1 | refine bst ?_ GE184.out) | exact HB.out))) : w.heap.size ≤ gb190)); have n4_ := am ((by rw [hg]; exact (below_size (by repeat (first | (with_reducible first | exact HB.out | apply bal | apply pdn | apply bd1 | refine bst ?_ GE184.out) | exact HB.out))) : w.heap.size ≤ gb190)); have n5_ := am ((by rw [hg]; exact Nat.ne_of_lt (blk_lt (g := gb184) (o := .cells #[.int .i64 t179, .int .i64 t180, .string t181] 60 (0, 0)) (by (with_reducible repeat (first | apply kdn | apply kdr | apply kal)); exact BK184.out)) : gb184 ≠ gb190)); have n6_ := am ((by rw [hg]; exact Nat.ne_of_gt (blk_lt (g := gb184) (o := .cells #[.int .i64 t179, .int .i64 t180, .string t181] 60 (0, 0)) (by (with_reducible repeat (first | apply kdn | apply kdr | apply kal)); exact BK184.out)) : gb190 ≠ gb184)); clear BK184; clear HB; have BK184 := n0_; have HB := n1_; have BK190 := n2_; have GW190 := n3_; have GE190 := n4_; have NB184_190 := n5_; have NB190_184 := n6_; clear n0_ n1_ n2_ n3_ n4_ n5_ n6_; clear hb hbox hg; have hnb14 := NB190_184.out; have hnc14 := NB184_190.out; have hcz15_0 : w13.cell? ⟨gb190, 0, none⟩ = some (.int .i64 0) := (kce BK190.out 0).trans rfl; have hcz15_1 : w13.cell? ⟨gb190, 1, none⟩ = some (.int .i64 0) := (kce BK190.out 1).trans rfl; have hcz15_2 : w13.cell? ⟨gb190, 2, none⟩ = some (.string (⟨#[]⟩ : ByteArray)) := (kce BK190.out 2).trans rfl; have hfz15_0 := kfr BK190.out 0; have hfz15_1 := kfr BK190.out 1; have hfz15_2 := kfr BK190.out 2; have hcz16_0 : w13.cell? ⟨gb184, 0, none⟩ = some (.int .i64 t179) := (kce BK184.out 0).trans rfl; have hcz16_1 : w13.cell? ⟨gb184, 1, none⟩ = some (.int .i64 t180) := (kce BK184.out 1).trans rfl; have hcz16_2 : w13.cell? ⟨gb184, 2, none⟩ = some (.string t181) := (kce BK184.out 2).trans rfl; have hfz16_0 := kfr BK184.out 0; have hfz16_1 := kfr BK184.out 1; have hfz16_2 := kfr BK184.out 2) | ((with_reducible refine gate_callee (f := 42) rfl ?_); refine goesL_ (some 26) rfl rfl Try.func42 (by kernel_rfl) rfl #[.agg #[.int .i64 t185, .int .i64 t186, .string t187], .agg #[.int .i64 t179, .int .i64 t180, .string t181]] rfl (by (try simp only [mta, mco, mni]); first | done | rfl | (simp only [lnd, lnt]; rfl)) ?_; (with_reducible refine (laws_eqOp.calls t185 t186 t187 t179 t180 t181 true _ A5.out).mono ?_); rintro e w17 ⟨rfl, hb⟩; refine ⟨_, rfl, ?_⟩; have n0_ := am (kbb (g := gb184) (o := .cells #[.int .i64 t179, .int .i64 t180, .string t181] 60 (0, 0)) (by (with_reducible repeat (first | apply kdn | apply kdr | apply kal)); refine blk_far ?_ NB184_190.out _; (with_reducible repeat (first | apply kdn | apply kdr | apply kal)); refine blk_far ?_ NB184_190.out _; (with_reducible repeat (first | apply kdn | apply kdr | apply kal)); refine blk_far ?_ NB184_190.out _; (with_reducible repeat (first | apply kdn | apply kdr | apply kal)); exact BK184.out) hb); have n1_ := am (kbb (g := gb190) (o := .cells #[.int .i64 t185, .int .i64 t186, .string t187] 60 (0, 0)) (by (with_reducible repeat (first | apply kdn | apply kdr | apply kal)); refine blk_put (cs := #[.int .i64 t185, .int .i64 t186, .string (⟨#[]⟩ : ByteArray)]) ?_ 2 _ rfl; (with_reducible repeat (first | apply kdn | apply kdr | apply kal)); refine blk_put (cs := #[.int .i64 t185, .int .i64 0, .string (⟨#[]⟩ : ByteArray)]) ?_ 1 _ rfl; (with_reducible repeat (first | apply kdn | apply kdr | apply kal)); refine blk_put (cs := #[.int .i64 0, .int .i64 0, .string (⟨#[]⟩ : ByteArray)]) ?_ 0 _ rfl; (with_reducible repeat (first | apply kdn | apply kdr | apply kal)); exact BK190.out) hb); have n2_ := am (below_step (by repeat (first | (with_reducible first | exact HB.out | apply bal | apply pdn | apply bd1 | refine bst ?_ GE184.out | refine bst ?_ GE190.out) | exact HB.out)) hb); clear BK184; clear BK190; clear HB; have BK184 := n0_; have BK190 := n1_; have HB := n2_; clear n0_ n1_ n2_; (try clear hb); (try clear hb2); (try clear hk); (try clear hi)))
     go_ret
     exact ⟨by first | rfl | (simp [errW_none, errW_some] <;> rfl) | (simp [*, errW_none, errW_some] <;> rfl), by repeat (first | (with_reducible first | exact HB.out | apply bal | apply pdn | apply bd1 | refine bst ?_ GE184.out | refine bst ?_ GE190.out) | exact HB.out)⟩
   ·rw [if_neg c7] at H
    have c7b0 : (t188 == t182) = false := beq_eq_false_iff_ne.mpr c7
    have c7b1 : (t188 != t182) = true := bne_iff_ne.mpr c7
    exact absurd ((Option.some.inj H).trans hT.out) (by decide)
  ·replace c6 := Bool.eq_false_iff.mpr c6
   subst c6
   have H1 : (some false) = some r := by rw [if_neg (show ¬ (false = true) by decide)] at H; exact H
   clear H
   have H := H1
   clear H1
   exact absurd ((Option.some.inj H).trans hT.out) (by decide)

/-- THE ONE PURE STATEMENT of laws_FnExactGetOp: yours. -/
def laws_FnExactGetOp.Pure : Prop := ∀ (a0 : ByteArray), a0.size ≤ 140737488351232 → ∃ k, laws_FnExactGetOp.f k a0 = some true
theorem laws_FnExactGetOp.walk (P : laws_FnExactGetOp.Pure) (a0 : ByteArray) (w : World) (w0 : a0.size ≤ 140737488351232) :
  Calls Try.prog 10 #[.string a0] w fun e w' => e = .returned (.bool true) ∧ Below w.heap.size w w' := by
 obtain ⟨k, h⟩ := P a0 w0
 refine (laws_FnExactGetOp.calls k a0 true w rfl h).mono ?_
 rintro e w' ⟨rfl, hd⟩
 exact ⟨rfl, hd⟩

end Go.Proofs.Ythphhklbliambaa.MFnExactGetOp
