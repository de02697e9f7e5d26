-- Written by a program of this session (wip/tools/myprint.py) over the kit's print: it is not the kit's print.
import Derived.Test.YthphhklbliambaaExtra
import Derived.Test.YthphhklbliambaaMFnExactGetOpx0
import Derived.Test.YthphhklbliambaaMFnExactGetOpx3
namespace Go.Proofs.Ythphhklbliambaa.MFnExactGetOp
open Go.RowKit Go.Proofs.YthphhklbliambaaW.PrintWords Go.Proofs.YthphhklbliambaaW.PrintLast Go.Proofs.YthphhklbliambaaW.PrintMore
open List renaming setIfInBounds_toArray → sit, set_cons_zero → scz, set_cons_succ → scs, map_toArray → mta, map_cons → mco, map_nil → mni, length_drop → lnd, length_take → lnt
attribute [local go_sem] max2_int min2_int max_two min_two max_three min_three max_four min_four   -- for this text's walks alone
set_option linter.unusedVariables false
set_option linter.unusedSimpArgs false

/-! ### impl_OpOk: function 86 -/
def impl_OpOk.j0 : Nat → Int → Bool → Int → Int → Int → Int → ByteArray → Option (Bool)
 | 0, _, _, _, _, _, _, _ => none
 | k + 1, x9, x10, x148000, x148001, x149000, x149001, x149002 => if x10 = true then (if x149001 = 0 then (some (x149002.toList == ([] : List UInt8))) else (some false)) else (if x9 = 2 then (if x149001 = 0 then (some (decide ((x149002.size : Int) ≤ 64))) else (some false)) else (if x9 = 3 then (if x148000 = 1 then ((impl_between.f x149001 0 64).bind fun t150 => (if t150 = true then (some (decide ((x149002.size : Int) ≤ 64))) else (some false))) else (some false)) else (if x9 = 4 then (if x148000 = 1 then (if x149001 = 0 then (some (decide ((x149002.size : Int) ≤ 64))) else (some false)) else (some false)) else (if x9 = 5 then (if x148000 = 1 then ((impl_between.f x149001 0 64).bind fun t151 => (if t151 = true then (some (x149002.toList == ([] : List UInt8))) else (some false))) else (some false)) else (some false)))))
def impl_OpOk.f (k : Nat) (a0_0 : Int) (a0_1 : Int) (a1_0 : Int) (a1_1 : Int) (a1_2 : ByteArray) : Option (Bool) := (impl_CodeOk.f a0_0 a0_1).bind fun t149 => (if t149 = true then (if a1_0 = 1 then (impl_OpOk.j0 k a1_0 (a1_0 == 1) a0_0 a0_1 a1_0 a1_1 a1_2) else (impl_OpOk.j0 k a1_0 (a1_0 == 6) a0_0 a0_1 a1_0 a1_1 a1_2)) else (some false))
theorem impl_OpOk.mono_l : ∀ k, (∀ y0 y1 y2 y3 y4 y5 y6, LeO (impl_OpOk.j0 k y0 y1 y2 y3 y4 y5 y6) (impl_OpOk.j0 (k + 1) y0 y1 y2 y3 y4 y5 y6))
 | 0 => fun _ _ _ _ _ _ _ r h => by simp [impl_OpOk.j0] at h
 | k + 1 => by
  have ih0 := impl_OpOk.mono_l k
  ·intro y0 y1 y2 y3 y4 y5 y6
   unfold impl_OpOk.j0
   repeat' first
   | (with_reducible exact ih0 _ _ _ _ _ _ _)
   | (with_reducible exact LeO.refl _)
   | (with_reducible exact LeO.none _)
   | (with_reducible refine LeO.ite ?_ ?_)
   | (with_reducible refine LeO.bind ?_ (fun _ => ?_))
   | exact ih0 _ _ _ _ _ _ _
   | exact LeO.none _
   | refine LeO.ite ?_ ?_
   | refine LeO.bind ?_ (fun _ => ?_)
theorem impl_OpOk.mono : ∀ a0 a1 a2 a3 a4 k, LeO (impl_OpOk.f k a0 a1 a2 a3 a4) (impl_OpOk.f (k + 1) a0 a1 a2 a3 a4) := by
 intro a0 a1 a2 a3 a4 k
 have ih0 := impl_OpOk.mono_l k
 unfold impl_OpOk.f
 repeat' first
   | (with_reducible exact ih0 _ _ _ _ _ _ _)
   | (with_reducible exact LeO.refl _)
   | (with_reducible exact LeO.none _)
   | (with_reducible refine LeO.ite ?_ ?_)
   | (with_reducible refine LeO.bind ?_ (fun _ => ?_))
   | exact ih0 _ _ _ _ _ _ _
   | exact LeO.none _
   | refine LeO.ite ?_ ?_
   | refine LeO.bind ?_ (fun _ => ?_)
set_option maxHeartbeats 8000000 in
set_option maxRecDepth 100000 in
theorem impl_OpOk.calls (k : Nat) (a0_0 : Int) (a0_1 : Int) (a1_0 : Int) (a1_1 : Int) (a1_2 : ByteArray) (r : Bool) (w : World) (h : impl_OpOk.f k a0_0 a0_1 a1_0 a1_1 a1_2 = some r) :
  Calls Try.prog 86 #[.agg #[.int .i64 a0_0, .int .i64 a0_1], .agg #[.int .i64 a1_0, .int .i64 a1_1, .string a1_2]] w fun e w' => e = .returned (.bool r) ∧ Below w.heap.size w w' := by
 have hu84 := Try.underlying84
 have hu60 := Try.underlying60
 have HB := am (Below.refl w.heap.size w)
 have H : ((impl_CodeOk.f a0_0 a0_1).bind fun t149 => (if t149 = true then (if a1_0 = 1 then (impl_OpOk.j0 k a1_0 (a1_0 == 1) a0_0 a0_1 a1_0 a1_1 a1_2) else (impl_OpOk.j0 k a1_0 (a1_0 == 6) a0_0 a0_1 a1_0 a1_1 a1_2)) else (some false))) = some r := h
 clear h
 replace H := Option.bind_eq_some_iff.mp H
 obtain ⟨t149, A30, H⟩ := H
 replace H : (if t149 = true then (if a1_0 = 1 then (impl_OpOk.j0 k a1_0 (a1_0 == 1) a0_0 a0_1 a1_0 a1_1 a1_2) else (impl_OpOk.j0 k a1_0 (a1_0 == 6) a0_0 a0_1 a1_0 a1_1 a1_2)) else (some false)) = some r := H
 have A3 := am A30
 clear A30
 by_cases c4 : t149 = true
 ·subst c4
  have H1 : (if a1_0 = 1 then (impl_OpOk.j0 k a1_0 (a1_0 == 1) a0_0 a0_1 a1_0 a1_1 a1_2) else (impl_OpOk.j0 k a1_0 (a1_0 == 6) a0_0 a0_1 a1_0 a1_1 a1_2)) = some r := by rw [if_pos rfl] at H; exact H
  clear H
  have H := H1
  clear H1
  have HC5 := am H
  clear H
  go_enter Try.func86, Try.ntmps86
  go_upto_if 10 with (first | ((with_reducible refine gate_dst (N := 2) rfl ?_); (try (refine gate_guard (by rfl) ?_; dsimp only)); refine box_event ?hg (N := 2) ?hd (cs := #[.int .i64 a0_0, .int .i64 a0_1]) (t := 84) ?hr ?_; (case hd => rfl); (case hg => rfl); (case hr => first | (go_simp; done) | (go_simp; rfl)); intro gb147 hg w6 hbox hb; have n0_ := am (below_step (by repeat (first | (with_reducible first | exact HB.out | apply bal | apply pdn | apply bd1) | exact HB.out)) hb); have n1_ := am (hbox); have n2_ := am ((by rw [hg]; exact (below_size (by repeat (first | (with_reducible first | exact HB.out | apply bal | apply pdn | apply bd1) | exact HB.out))) : w.heap.size ≤ gb147)); have n3_ := am ((by rw [hg]; exact (below_size (by repeat (first | (with_reducible first | exact HB.out | apply bal | apply pdn | apply bd1) | exact HB.out))) : w.heap.size ≤ gb147)); clear HB; have HB := n0_; have BK147 := n1_; have GW147 := n2_; have GE147 := n3_; clear n0_ n1_ n2_ n3_; clear hb hbox hg) | ((with_reducible refine gate_dst (N := 3) rfl ?_); (try (refine gate_guard (by rfl) ?_; dsimp only)); refine box_event ?hg (N := 3) ?hd (cs := #[.int .i64 a1_0, .int .i64 a1_1, .string a1_2]) (t := 60) ?hr ?_; (case hd => rfl); (case hg => rfl); (case hr => first | (go_simp; done) | (go_simp; rfl)); intro gb148 hg w7 hbox hb; have n0_ := am (kbb (g := gb147) (o := .cells #[.int .i64 a0_0, .int .i64 a0_1] 84 (0, 0)) (by (with_reducible repeat (first | apply kdn | apply kdr | apply kal)); exact BK147.out) hb); have n1_ := am (below_step (by repeat (first | (with_reducible first | exact HB.out | apply bal | apply pdn | apply bd1 | refine bst ?_ GE147.out) | exact HB.out)) hb); have n2_ := am (hbox); have n3_ := am ((by rw [hg]; exact (below_size (by repeat (first | (with_reducible first | exact HB.out | apply bal | apply pdn | apply bd1 | refine bst ?_ GE147.out) | exact HB.out))) : w.heap.size ≤ gb148)); have n4_ := am ((by rw [hg]; exact (below_size (by repeat (first | (with_reducible first | exact HB.out | apply bal | apply pdn | apply bd1 | refine bst ?_ GE147.out) | exact HB.out))) : w.heap.size ≤ gb148)); have n5_ := am ((by rw [hg]; exact Nat.ne_of_lt (blk_lt (g := gb147) (o := .cells #[.int .i64 a0_0, .int .i64 a0_1] 84 (0, 0)) (by (with_reducible repeat (first | apply kdn | apply kdr | apply kal)); exact BK147.out)) : gb147 ≠ gb148)); have n6_ := am ((by rw [hg]; exact Nat.ne_of_gt (blk_lt (g := gb147) (o := .cells #[.int .i64 a0_0, .int .i64 a0_1] 84 (0, 0)) (by (with_reducible repeat (first | apply kdn | apply kdr | apply kal)); exact BK147.out)) : gb148 ≠ gb147)); clear BK147; clear HB; have BK147 := n0_; have HB := n1_; have BK148 := n2_; have GW148 := n3_; have GE148 := n4_; have NB147_148 := n5_; have NB148_147 := n6_; clear n0_ n1_ n2_ n3_ n4_ n5_ n6_; clear hb hbox hg; have hnb8 := NB147_148.out; have hnc8 := NB148_147.out; have hcz9_0 : w7.cell? ⟨gb147, 0, none⟩ = some (.int .i64 a0_0) := (kce BK147.out 0).trans rfl; have hcz9_1 : w7.cell? ⟨gb147, 1, none⟩ = some (.int .i64 a0_1) := (kce BK147.out 1).trans rfl; have hfz9_0 := kfr BK147.out 0; have hfz9_1 := kfr BK147.out 1) | ((with_reducible refine gate_callee (f := 117) rfl ?_); refine goesL_ (some 6) rfl rfl Try.func117 (by kernel_rfl) rfl #[.agg #[.int .i64 a0_0, .int .i64 a0_1]] rfl (by (try simp only [mta, mco, mni]); first | done | rfl | (simp only [lnd, lnt]; rfl)) ?_; (with_reducible refine (impl_CodeOk.calls a0_0 a0_1 true _ A3.out).mono ?_); rintro e w10 ⟨rfl, hb⟩; refine ⟨_, rfl, ?_⟩; have n0_ := am (kbb (g := gb147) (o := .cells #[.int .i64 a0_0, .int .i64 a0_1] 84 (0, 0)) (by (with_reducible repeat (first | apply kdn | apply kdr | apply kal)); exact BK147.out) hb); have n1_ := am (kbb (g := gb148) (o := .cells #[.int .i64 a1_0, .int .i64 a1_1, .string a1_2] 60 (0, 0)) (by (with_reducible repeat (first | apply kdn | apply kdr | apply kal)); exact BK148.out) hb); have n2_ := am (below_step (by repeat (first | (with_reducible first | exact HB.out | apply bal | apply pdn | apply bd1 | refine bst ?_ GE147.out | refine bst ?_ GE148.out) | exact HB.out)) hb); clear BK147; clear BK148; clear HB; have BK147 := n0_; have BK148 := n1_; have HB := n2_; clear n0_ n1_ n2_; (try clear hb); (try clear hb2); (try clear hk); (try clear hi); have hcz11_0 : w10.cell? ⟨gb148, 0, none⟩ = some (.int .i64 a1_0) := (kce BK148.out 0).trans rfl; have hcz11_1 : w10.cell? ⟨gb148, 1, none⟩ = some (.int .i64 a1_1) := (kce BK148.out 1).trans rfl; have hcz11_2 : w10.cell? ⟨gb148, 2, none⟩ = some (.string a1_2) := (kce BK148.out 2).trans rfl; have hfz11_0 := kfr BK148.out 0; have hfz11_1 := kfr BK148.out 1; have hfz11_2 := kfr BK148.out 2))
  (try simp only [Act.put, sit, scz, scs])
  go_cut [10] (fun v10 wc => ∃ (kq : Nat) (x10_4 : Bool), v10 = .bool x10_4 ∧ Aside0 (impl_OpOk.j0 kq a1_0 x10_4 a0_0 a0_1 a1_0 a1_1 a1_2 = some r) ∧ Aside0 (kq ≤ k) ∧ Aside0 (wc.heap[gb147]? = some (.cells #[.int .i64 a0_0, .int .i64 a0_1] 84 (0, 0))) ∧ Aside0 (wc.heap[gb148]? = some (.cells #[.int .i64 a1_0, .int .i64 a1_1, .string a1_2] 60 (0, 0))) ∧ Aside0 (Below w.heap.size w wc))
  case first =>
   have H := HC5.out
   clear HC5
   by_cases c12 : a1_0 = 1
   ·rw [if_pos c12] at H
    have c12b0 : (a1_0 == 1) = true := beq_iff_eq.mpr c12
    have c12b1 : (a1_0 != 1) = false := bne_eq_false_iff_eq.mpr c12
    clear c12
    (first | rw [c12b0] | (simp only [i64_w, i32_w]; rw [c12b0]) | skip)
    have H' := am H
    clear H
    go_wp2
    go_meet
    case rel => exact ⟨_, ((a1_0 == 1)), (by first | rfl | (simp; done) | (simp [*]; done)), H', ⟨by first | omega | exact Nat.le_refl _⟩, ⟨by (with_reducible repeat (first | apply kdn | apply kdr | apply kal)); exact BK147.out⟩, ⟨by (with_reducible repeat (first | apply kdn | apply kdr | apply kal)); exact BK148.out⟩, ⟨by repeat (first | (with_reducible first | exact HB.out | apply bal | apply pdn | apply bd1 | refine bst ?_ GE147.out | refine bst ?_ GE148.out) | exact HB.out)⟩⟩
   ·rw [if_neg c12] at H
    have c12b0 : (a1_0 == 1) = false := beq_eq_false_iff_ne.mpr c12
    have c12b1 : (a1_0 != 1) = true := bne_iff_ne.mpr c12
    (first | rw [c12b0] | (simp only [i64_w, i32_w]; rw [c12b0]) | skip)
    have H' := am H
    clear H
    go_wp2
    go_meet
    case rel => exact ⟨_, ((a1_0 == 6)), (by first | rfl | (simp; done) | (simp [*]; done)), H', ⟨by first | omega | exact Nat.le_refl _⟩, ⟨by (with_reducible repeat (first | apply kdn | apply kdr | apply kal)); exact BK147.out⟩, ⟨by (with_reducible repeat (first | apply kdn | apply kdr | apply kal)); exact BK148.out⟩, ⟨by repeat (first | (with_reducible first | exact HB.out | apply bal | apply pdn | apply bd1 | refine bst ?_ GE147.out | refine bst ?_ GE148.out) | exact HB.out)⟩⟩
  case rest =>
   clear HC5
   obtain ⟨kq, x10_4, rfl, HA, HJ4, BK147, BK148, HB⟩ := hcut
   cases kq with
   | zero => exact absurd HA.out (by simp [impl_OpOk.j0])
   | succ kj4 =>
    have H := HA.out
    clear HA
    simp only [impl_OpOk.j0] at H
    by_cases c13 : x10_4 = true
    ·subst c13
     have H1 : (if a1_1 = 0 then (some (a1_2.toList == ([] : List UInt8))) else (some false)) = some r := by rw [if_pos rfl] at H; exact H
     clear H
     have H := H1
     clear H1
     by_cases c14 : a1_1 = 0
     ·rw [if_pos c14] at H
      have c14b0 : (a1_1 == 0) = true := beq_iff_eq.mpr c14
      have c14b1 : (a1_1 != 0) = false := bne_eq_false_iff_eq.mpr c14
      clear c14
      obtain rfl := Option.some.inj H
      have hnb15 := NB148_147.out
      have hnc15 := NB147_148.out
      have hcz16_0 : wc.cell? ⟨gb148, 0, none⟩ = some (.int .i64 a1_0) := (kce BK148.out 0).trans rfl
      have hcz16_1 : wc.cell? ⟨gb148, 1, none⟩ = some (.int .i64 a1_1) := (kce BK148.out 1).trans rfl
      have hcz16_2 : wc.cell? ⟨gb148, 2, none⟩ = some (.string a1_2) := (kce BK148.out 2).trans rfl
      have hfz16_0 := kfr BK148.out 0
      have hfz16_1 := kfr BK148.out 1
      have hfz16_2 := kfr BK148.out 2
      go_wp2
      go_ret
      exact ⟨by first | rfl | (simp [errW_none, errW_some] <;> rfl) | (simp [*, errW_none, errW_some] <;> rfl), by repeat (first | (with_reducible first | exact HB.out | apply bal | apply pdn | apply bd1 | refine bst ?_ GE147.out | refine bst ?_ GE148.out) | exact HB.out)⟩
     ·rw [if_neg c14] at H
      have c14b0 : (a1_1 == 0) = false := beq_eq_false_iff_ne.mpr c14
      have c14b1 : (a1_1 != 0) = true := bne_iff_ne.mpr c14
      obtain rfl := Option.some.inj H
      have hnb17 := NB148_147.out
      have hnc17 := NB147_148.out
      have hcz18_0 : wc.cell? ⟨gb148, 0, none⟩ = some (.int .i64 a1_0) := (kce BK148.out 0).trans rfl
      have hcz18_1 : wc.cell? ⟨gb148, 1, none⟩ = some (.int .i64 a1_1) := (kce BK148.out 1).trans rfl
      have hcz18_2 : wc.cell? ⟨gb148, 2, none⟩ = some (.string a1_2) := (kce BK148.out 2).trans rfl
      have hfz18_0 := kfr BK148.out 0
      have hfz18_1 := kfr BK148.out 1
      have hfz18_2 := kfr BK148.out 2
      go_wp2
      go_ret
      exact ⟨by first | rfl | (simp [errW_none, errW_some] <;> rfl) | (simp [*, errW_none, errW_some] <;> rfl), by repeat (first | (with_reducible first | exact HB.out | apply bal | apply pdn | apply bd1 | refine bst ?_ GE147.out | refine bst ?_ GE148.out) | exact HB.out)⟩
    ·replace c13 := Bool.eq_false_iff.mpr c13
     subst c13
     have H1 : (if a1_0 = 2 then (if a1_1 = 0 then (some (decide ((a1_2.size : Int) ≤ 64))) else (some false)) else (if a1_0 = 3 then (if a0_0 = 1 then ((impl_between.f a1_1 0 64).bind fun t150 => (if t150 = true then (some (decide ((a1_2.size : Int) ≤ 64))) else (some false))) else (some false)) else (if a1_0 = 4 then (if a0_0 = 1 then (if a1_1 = 0 then (some (decide ((a1_2.size : Int) ≤ 64))) else (some false)) else (some false)) else (if a1_0 = 5 then (if a0_0 = 1 then ((impl_between.f a1_1 0 64).bind fun t151 => (if t151 = true then (some (a1_2.toList == ([] : List UInt8))) else (some false))) else (some false)) else (some false))))) = some r := by rw [if_neg (show ¬ (false = true) by decide)] at H; exact H
     clear H
     have H := H1
     clear H1
     by_cases c19 : a1_0 = 2
     ·rw [if_pos c19] at H
      have c19b0 : (a1_0 == 2) = true := beq_iff_eq.mpr c19
      have c19b1 : (a1_0 != 2) = false := bne_eq_false_iff_eq.mpr c19
      clear c19
      by_cases c20 : a1_1 = 0
      ·rw [if_pos c20] at H
       have c20b0 : (a1_1 == 0) = true := beq_iff_eq.mpr c20
       have c20b1 : (a1_1 != 0) = false := bne_eq_false_iff_eq.mpr c20
       clear c20
       obtain rfl := Option.some.inj H
       have hnb21 := NB148_147.out
       have hnc21 := NB147_148.out
       have hcz22_0 : wc.cell? ⟨gb148, 0, none⟩ = some (.int .i64 a1_0) := (kce BK148.out 0).trans rfl
       have hcz22_1 : wc.cell? ⟨gb148, 1, none⟩ = some (.int .i64 a1_1) := (kce BK148.out 1).trans rfl
       have hcz22_2 : wc.cell? ⟨gb148, 2, none⟩ = some (.string a1_2) := (kce BK148.out 2).trans rfl
       have hfz22_0 := kfr BK148.out 0
       have hfz22_1 := kfr BK148.out 1
       have hfz22_2 := kfr BK148.out 2
       go_wp2
       go_ret
       exact ⟨by first | rfl | (simp [errW_none, errW_some] <;> rfl) | (simp [*, errW_none, errW_some] <;> rfl), by repeat (first | (with_reducible first | exact HB.out | apply bal | apply pdn | apply bd1 | refine bst ?_ GE147.out | refine bst ?_ GE148.out) | exact HB.out)⟩
      ·rw [if_neg c20] at H
       have c20b0 : (a1_1 == 0) = false := beq_eq_false_iff_ne.mpr c20
       have c20b1 : (a1_1 != 0) = true := bne_iff_ne.mpr c20
       obtain rfl := Option.some.inj H
       have hnb23 := NB148_147.out
       have hnc23 := NB147_148.out
       have hcz24_0 : wc.cell? ⟨gb148, 0, none⟩ = some (.int .i64 a1_0) := (kce BK148.out 0).trans rfl
       have hcz24_1 : wc.cell? ⟨gb148, 1, none⟩ = some (.int .i64 a1_1) := (kce BK148.out 1).trans rfl
       have hcz24_2 : wc.cell? ⟨gb148, 2, none⟩ = some (.string a1_2) := (kce BK148.out 2).trans rfl
       have hfz24_0 := kfr BK148.out 0
       have hfz24_1 := kfr BK148.out 1
       have hfz24_2 := kfr BK148.out 2
       go_wp2
       go_ret
       exact ⟨by first | rfl | (simp [errW_none, errW_some] <;> rfl) | (simp [*, errW_none, errW_some] <;> rfl), by repeat (first | (with_reducible first | exact HB.out | apply bal | apply pdn | apply bd1 | refine bst ?_ GE147.out | refine bst ?_ GE148.out) | exact HB.out)⟩
     ·rw [if_neg c19] at H
      have c19b0 : (a1_0 == 2) = false := beq_eq_false_iff_ne.mpr c19
      have c19b1 : (a1_0 != 2) = true := bne_iff_ne.mpr c19
      by_cases c25 : a1_0 = 3
      ·rw [if_pos c25] at H
       have c25b0 : (a1_0 == 3) = true := beq_iff_eq.mpr c25
       have c25b1 : (a1_0 != 3) = false := bne_eq_false_iff_eq.mpr c25
       clear c25
       by_cases c26 : a0_0 = 1
       ·rw [if_pos c26] at H
        have c26b0 : (a0_0 == 1) = true := beq_iff_eq.mpr c26
        have c26b1 : (a0_0 != 1) = false := bne_eq_false_iff_eq.mpr c26
        clear c26
        replace H := Option.bind_eq_some_iff.mp H
        obtain ⟨t150, A270, H⟩ := H
        replace H : (if t150 = true then (some (decide ((a1_2.size : Int) ≤ 64))) else (some false)) = some r := H
        have A27 := am A270
        clear A270
        by_cases c28 : t150 = true
        ·subst c28
         have H1 : (some (decide ((a1_2.size : Int) ≤ 64))) = some r := by rw [if_pos rfl] at H; exact H
         clear H
         have H := H1
         clear H1
         obtain rfl := Option.some.inj H
         have hnb29 := NB147_148.out
         have hnc29 := NB148_147.out
         have hcz30_0 : wc.cell? ⟨gb147, 0, none⟩ = some (.int .i64 a0_0) := (kce BK147.out 0).trans rfl
         have hcz30_1 : wc.cell? ⟨gb147, 1, none⟩ = some (.int .i64 a0_1) := (kce BK147.out 1).trans rfl
         have hfz30_0 := kfr BK147.out 0
         have hfz30_1 := kfr BK147.out 1
         have hcz31_0 : wc.cell? ⟨gb148, 0, none⟩ = some (.int .i64 a1_0) := (kce BK148.out 0).trans rfl
         have hcz31_1 : wc.cell? ⟨gb148, 1, none⟩ = some (.int .i64 a1_1) := (kce BK148.out 1).trans rfl
         have hcz31_2 : wc.cell? ⟨gb148, 2, none⟩ = some (.string a1_2) := (kce BK148.out 2).trans rfl
         have hfz31_0 := kfr BK148.out 0
         have hfz31_1 := kfr BK148.out 1
         have hfz31_2 := kfr BK148.out 2
         go_wp2_with (first | (go_at_call 60; (with_reducible refine (impl_between.calls a1_1 0 64 true _ A27.out).mono ?_); rintro e w' ⟨rfl, ⟨nd, rfl⟩⟩))
         go_ret
         exact ⟨by first | rfl | (simp [errW_none, errW_some] <;> rfl) | (simp [*, errW_none, errW_some] <;> rfl), by repeat (first | (with_reducible first | exact HB.out | apply bal | apply pdn | apply bd1 | refine bst ?_ GE147.out | refine bst ?_ GE148.out) | exact HB.out)⟩
        ·replace c28 := Bool.eq_false_iff.mpr c28
         subst c28
         have H1 : (some false) = some r := by rw [if_neg (show ¬ (false = true) by decide)] at H; exact H
         clear H
         have H := H1
         clear H1
         obtain rfl := Option.some.inj H
         have hnb32 := NB147_148.out
         have hnc32 := NB148_147.out
         have hcz33_0 : wc.cell? ⟨gb147, 0, none⟩ = some (.int .i64 a0_0) := (kce BK147.out 0).trans rfl
         have hcz33_1 : wc.cell? ⟨gb147, 1, none⟩ = some (.int .i64 a0_1) := (kce BK147.out 1).trans rfl
         have hfz33_0 := kfr BK147.out 0
         have hfz33_1 := kfr BK147.out 1
         have hcz34_0 : wc.cell? ⟨gb148, 0, none⟩ = some (.int .i64 a1_0) := (kce BK148.out 0).trans rfl
         have hcz34_1 : wc.cell? ⟨gb148, 1, none⟩ = some (.int .i64 a1_1) := (kce BK148.out 1).trans rfl
         have hcz34_2 : wc.cell? ⟨gb148, 2, none⟩ = some (.string a1_2) := (kce BK148.out 2).trans rfl
         have hfz34_0 := kfr BK148.out 0
         have hfz34_1 := kfr BK148.out 1
         have hfz34_2 := kfr BK148.out 2
         go_wp2_with (first | (go_at_call 60; (with_reducible refine (impl_between.calls a1_1 0 64 false _ A27.out).mono ?_); rintro e w' ⟨rfl, ⟨nd, rfl⟩⟩))
         go_ret
         exact ⟨by first | rfl | (simp [errW_none, errW_some] <;> rfl) | (simp [*, errW_none, errW_some] <;> rfl), by repeat (first | (with_reducible first | exact HB.out | apply bal | apply pdn | apply bd1 | refine bst ?_ GE147.out | refine bst ?_ GE148.out) | exact HB.out)⟩
       ·rw [if_neg c26] at H
        have c26b0 : (a0_0 == 1) = false := beq_eq_false_iff_ne.mpr c26
        have c26b1 : (a0_0 != 1) = true := bne_iff_ne.mpr c26
        obtain rfl := Option.some.inj H
        have hnb35 := NB147_148.out
        have hnc35 := NB148_147.out
        have hcz36_0 : wc.cell? ⟨gb147, 0, none⟩ = some (.int .i64 a0_0) := (kce BK147.out 0).trans rfl
        have hcz36_1 : wc.cell? ⟨gb147, 1, none⟩ = some (.int .i64 a0_1) := (kce BK147.out 1).trans rfl
        have hfz36_0 := kfr BK147.out 0
        have hfz36_1 := kfr BK147.out 1
        go_wp2
        go_ret
        exact ⟨by first | rfl | (simp [errW_none, errW_some] <;> rfl) | (simp [*, errW_none, errW_some] <;> rfl), by repeat (first | (with_reducible first | exact HB.out | apply bal | apply pdn | apply bd1 | refine bst ?_ GE147.out | refine bst ?_ GE148.out) | exact HB.out)⟩
      ·rw [if_neg c25] at H
       have c25b0 : (a1_0 == 3) = false := beq_eq_false_iff_ne.mpr c25
       have c25b1 : (a1_0 != 3) = true := bne_iff_ne.mpr c25
       by_cases c37 : a1_0 = 4
       ·rw [if_pos c37] at H
        have c37b0 : (a1_0 == 4) = true := beq_iff_eq.mpr c37
        have c37b1 : (a1_0 != 4) = false := bne_eq_false_iff_eq.mpr c37
        clear c37
        by_cases c38 : a0_0 = 1
        ·rw [if_pos c38] at H
         have c38b0 : (a0_0 == 1) = true := beq_iff_eq.mpr c38
         have c38b1 : (a0_0 != 1) = false := bne_eq_false_iff_eq.mpr c38
         clear c38
         by_cases c39 : a1_1 = 0
         ·rw [if_pos c39] at H
          have c39b0 : (a1_1 == 0) = true := beq_iff_eq.mpr c39
          have c39b1 : (a1_1 != 0) = false := bne_eq_false_iff_eq.mpr c39
          clear c39
          obtain rfl := Option.some.inj H
          have hnb40 := NB147_148.out
          have hnc40 := NB148_147.out
          have hcz41_0 : wc.cell? ⟨gb147, 0, none⟩ = some (.int .i64 a0_0) := (kce BK147.out 0).trans rfl
          have hcz41_1 : wc.cell? ⟨gb147, 1, none⟩ = some (.int .i64 a0_1) := (kce BK147.out 1).trans rfl
          have hfz41_0 := kfr BK147.out 0
          have hfz41_1 := kfr BK147.out 1
          have hcz42_0 : wc.cell? ⟨gb148, 0, none⟩ = some (.int .i64 a1_0) := (kce BK148.out 0).trans rfl
          have hcz42_1 : wc.cell? ⟨gb148, 1, none⟩ = some (.int .i64 a1_1) := (kce BK148.out 1).trans rfl
          have hcz42_2 : wc.cell? ⟨gb148, 2, none⟩ = some (.string a1_2) := (kce BK148.out 2).trans rfl
          have hfz42_0 := kfr BK148.out 0
          have hfz42_1 := kfr BK148.out 1
          have hfz42_2 := kfr BK148.out 2
          go_wp2
          go_ret
          exact ⟨by first | rfl | (simp [errW_none, errW_some] <;> rfl) | (simp [*, errW_none, errW_some] <;> rfl), by repeat (first | (with_reducible first | exact HB.out | apply bal | apply pdn | apply bd1 | refine bst ?_ GE147.out | refine bst ?_ GE148.out) | exact HB.out)⟩
         ·rw [if_neg c39] at H
          have c39b0 : (a1_1 == 0) = false := beq_eq_false_iff_ne.mpr c39
          have c39b1 : (a1_1 != 0) = true := bne_iff_ne.mpr c39
          obtain rfl := Option.some.inj H
          have hnb43 := NB147_148.out
          have hnc43 := NB148_147.out
          have hcz44_0 : wc.cell? ⟨gb147, 0, none⟩ = some (.int .i64 a0_0) := (kce BK147.out 0).trans rfl
          have hcz44_1 : wc.cell? ⟨gb147, 1, none⟩ = some (.int .i64 a0_1) := (kce BK147.out 1).trans rfl
          have hfz44_0 := kfr BK147.out 0
          have hfz44_1 := kfr BK147.out 1
          have hcz45_0 : wc.cell? ⟨gb148, 0, none⟩ = some (.int .i64 a1_0) := (kce BK148.out 0).trans rfl
          have hcz45_1 : wc.cell? ⟨gb148, 1, none⟩ = some (.int .i64 a1_1) := (kce BK148.out 1).trans rfl
          have hcz45_2 : wc.cell? ⟨gb148, 2, none⟩ = some (.string a1_2) := (kce BK148.out 2).trans rfl
          have hfz45_0 := kfr BK148.out 0
          have hfz45_1 := kfr BK148.out 1
          have hfz45_2 := kfr BK148.out 2
          go_wp2
          go_ret
          exact ⟨by first | rfl | (simp [errW_none, errW_some] <;> rfl) | (simp [*, errW_none, errW_some] <;> rfl), by repeat (first | (with_reducible first | exact HB.out | apply bal | apply pdn | apply bd1 | refine bst ?_ GE147.out | refine bst ?_ GE148.out) | exact HB.out)⟩
        ·rw [if_neg c38] at H
         have c38b0 : (a0_0 == 1) = false := beq_eq_false_iff_ne.mpr c38
         have c38b1 : (a0_0 != 1) = true := bne_iff_ne.mpr c38
         obtain rfl := Option.some.inj H
         have hnb46 := NB147_148.out
         have hnc46 := NB148_147.out
         have hcz47_0 : wc.cell? ⟨gb147, 0, none⟩ = some (.int .i64 a0_0) := (kce BK147.out 0).trans rfl
         have hcz47_1 : wc.cell? ⟨gb147, 1, none⟩ = some (.int .i64 a0_1) := (kce BK147.out 1).trans rfl
         have hfz47_0 := kfr BK147.out 0
         have hfz47_1 := kfr BK147.out 1
         go_wp2
         go_ret
         exact ⟨by first | rfl | (simp [errW_none, errW_some] <;> rfl) | (simp [*, errW_none, errW_some] <;> rfl), by repeat (first | (with_reducible first | exact HB.out | apply bal | apply pdn | apply bd1 | refine bst ?_ GE147.out | refine bst ?_ GE148.out) | exact HB.out)⟩
       ·rw [if_neg c37] at H
        have c37b0 : (a1_0 == 4) = false := beq_eq_false_iff_ne.mpr c37
        have c37b1 : (a1_0 != 4) = true := bne_iff_ne.mpr c37
        by_cases c48 : a1_0 = 5
        ·rw [if_pos c48] at H
         have c48b0 : (a1_0 == 5) = true := beq_iff_eq.mpr c48
         have c48b1 : (a1_0 != 5) = false := bne_eq_false_iff_eq.mpr c48
         clear c48
         by_cases c49 : a0_0 = 1
         ·rw [if_pos c49] at H
          have c49b0 : (a0_0 == 1) = true := beq_iff_eq.mpr c49
          have c49b1 : (a0_0 != 1) = false := bne_eq_false_iff_eq.mpr c49
          clear c49
          replace H := Option.bind_eq_some_iff.mp H
          obtain ⟨t151, A500, H⟩ := H
          replace H : (if t151 = true then (some (a1_2.toList == ([] : List UInt8))) else (some false)) = some r := H
          have A50 := am A500
          clear A500
          by_cases c51 : t151 = true
          ·subst c51
           have H1 : (some (a1_2.toList == ([] : List UInt8))) = some r := by rw [if_pos rfl] at H; exact H
           clear H
           have H := H1
           clear H1
           obtain rfl := Option.some.inj H
           have hnb52 := NB147_148.out
           have hnc52 := NB148_147.out
           have hcz53_0 : wc.cell? ⟨gb147, 0, none⟩ = some (.int .i64 a0_0) := (kce BK147.out 0).trans rfl
           have hcz53_1 : wc.cell? ⟨gb147, 1, none⟩ = some (.int .i64 a0_1) := (kce BK147.out 1).trans rfl
           have hfz53_0 := kfr BK147.out 0
           have hfz53_1 := kfr BK147.out 1
           have hcz54_0 : wc.cell? ⟨gb148, 0, none⟩ = some (.int .i64 a1_0) := (kce BK148.out 0).trans rfl
           have hcz54_1 : wc.cell? ⟨gb148, 1, none⟩ = some (.int .i64 a1_1) := (kce BK148.out 1).trans rfl
           have hcz54_2 : wc.cell? ⟨gb148, 2, none⟩ = some (.string a1_2) := (kce BK148.out 2).trans rfl
           have hfz54_0 := kfr BK148.out 0
           have hfz54_1 := kfr BK148.out 1
           have hfz54_2 := kfr BK148.out 2
           go_wp2_with (first | (go_at_call 60; (with_reducible refine (impl_between.calls a1_1 0 64 true _ A50.out).mono ?_); rintro e w' ⟨rfl, ⟨nd, rfl⟩⟩))
           go_ret
           exact ⟨by first | rfl | (simp [errW_none, errW_some] <;> rfl) | (simp [*, errW_none, errW_some] <;> rfl), by repeat (first | (with_reducible first | exact HB.out | apply bal | apply pdn | apply bd1 | refine bst ?_ GE147.out | refine bst ?_ GE148.out) | exact HB.out)⟩
          ·replace c51 := Bool.eq_false_iff.mpr c51
           subst c51
           have H1 : (some false) = some r := by rw [if_neg (show ¬ (false = true) by decide)] at H; exact H
           clear H
           have H := H1
           clear H1
           obtain rfl := Option.some.inj H
           have hnb55 := NB147_148.out
           have hnc55 := NB148_147.out
           have hcz56_0 : wc.cell? ⟨gb147, 0, none⟩ = some (.int .i64 a0_0) := (kce BK147.out 0).trans rfl
           have hcz56_1 : wc.cell? ⟨gb147, 1, none⟩ = some (.int .i64 a0_1) := (kce BK147.out 1).trans rfl
           have hfz56_0 := kfr BK147.out 0
           have hfz56_1 := kfr BK147.out 1
           have hcz57_0 : wc.cell? ⟨gb148, 0, none⟩ = some (.int .i64 a1_0) := (kce BK148.out 0).trans rfl
           have hcz57_1 : wc.cell? ⟨gb148, 1, none⟩ = some (.int .i64 a1_1) := (kce BK148.out 1).trans rfl
           have hcz57_2 : wc.cell? ⟨gb148, 2, none⟩ = some (.string a1_2) := (kce BK148.out 2).trans rfl
           have hfz57_0 := kfr BK148.out 0
           have hfz57_1 := kfr BK148.out 1
           have hfz57_2 := kfr BK148.out 2
           go_wp2_with (first | (go_at_call 60; (with_reducible refine (impl_between.calls a1_1 0 64 false _ A50.out).mono ?_); rintro e w' ⟨rfl, ⟨nd, rfl⟩⟩))
           go_ret
           exact ⟨by first | rfl | (simp [errW_none, errW_some] <;> rfl) | (simp [*, errW_none, errW_some] <;> rfl), by repeat (first | (with_reducible first | exact HB.out | apply bal | apply pdn | apply bd1 | refine bst ?_ GE147.out | refine bst ?_ GE148.out) | exact HB.out)⟩
         ·rw [if_neg c49] at H
          have c49b0 : (a0_0 == 1) = false := beq_eq_false_iff_ne.mpr c49
          have c49b1 : (a0_0 != 1) = true := bne_iff_ne.mpr c49
          obtain rfl := Option.some.inj H
          have hnb58 := NB147_148.out
          have hnc58 := NB148_147.out
          have hcz59_0 : wc.cell? ⟨gb147, 0, none⟩ = some (.int .i64 a0_0) := (kce BK147.out 0).trans rfl
          have hcz59_1 : wc.cell? ⟨gb147, 1, none⟩ = some (.int .i64 a0_1) := (kce BK147.out 1).trans rfl
          have hfz59_0 := kfr BK147.out 0
          have hfz59_1 := kfr BK147.out 1
          go_wp2
          go_ret
          exact ⟨by first | rfl | (simp [errW_none, errW_some] <;> rfl) | (simp [*, errW_none, errW_some] <;> rfl), by repeat (first | (with_reducible first | exact HB.out | apply bal | apply pdn | apply bd1 | refine bst ?_ GE147.out | refine bst ?_ GE148.out) | exact HB.out)⟩
        ·rw [if_neg c48] at H
         have c48b0 : (a1_0 == 5) = false := beq_eq_false_iff_ne.mpr c48
         have c48b1 : (a1_0 != 5) = true := bne_iff_ne.mpr c48
         obtain rfl := Option.some.inj H
         go_wp2
         go_ret
         exact ⟨by first | rfl | (simp [errW_none, errW_some] <;> rfl) | (simp [*, errW_none, errW_some] <;> rfl), by repeat (first | (with_reducible first | exact HB.out | apply bal | apply pdn | apply bd1 | refine bst ?_ GE147.out | refine bst ?_ GE148.out) | exact HB.out)⟩
 ·replace c4 := Bool.eq_false_iff.mpr c4
  subst c4
  have H1 : (some false) = some r := by rw [if_neg (show ¬ (false = true) by decide)] at H; exact H
  clear H
  have H := H1
  clear H1
  obtain rfl := Option.some.inj H
  go_enter Try.func86, Try.ntmps86
  go_wp2_with (first | ((with_reducible refine gate_dst (N := 2) rfl ?_); (try (refine gate_guard (by rfl) ?_; dsimp only)); refine box_event ?hg (N := 2) ?hd (cs := #[.int .i64 a0_0, .int .i64 a0_1]) (t := 84) ?hr ?_; (case hd => rfl); (case hg => rfl); (case hr => first | (go_simp; done) | (go_simp; rfl)); intro gb147 hg w60 hbox hb; have n0_ := am (below_step (by repeat (first | (with_reducible first | exact HB.out | apply bal | apply pdn | apply bd1) | exact HB.out)) hb); have n1_ := am (hbox); have n2_ := am ((by rw [hg]; exact (below_size (by repeat (first | (with_reducible first | exact HB.out | apply bal | apply pdn | apply bd1) | exact HB.out))) : w.heap.size ≤ gb147)); have n3_ := am ((by rw [hg]; exact (below_size (by repeat (first | (with_reducible first | exact HB.out | apply bal | apply pdn | apply bd1) | exact HB.out))) : w.heap.size ≤ gb147)); clear HB; have HB := n0_; have BK147 := n1_; have GW147 := n2_; have GE147 := n3_; clear n0_ n1_ n2_ n3_; clear hb hbox hg) | ((with_reducible refine gate_dst (N := 3) rfl ?_); (try (refine gate_guard (by rfl) ?_; dsimp only)); refine box_event ?hg (N := 3) ?hd (cs := #[.int .i64 a1_0, .int .i64 a1_1, .string a1_2]) (t := 60) ?hr ?_; (case hd => rfl); (case hg => rfl); (case hr => first | (go_simp; done) | (go_simp; rfl)); intro gb148 hg w61 hbox hb; have n0_ := am (kbb (g := gb147) (o := .cells #[.int .i64 a0_0, .int .i64 a0_1] 84 (0, 0)) (by (with_reducible repeat (first | apply kdn | apply kdr | apply kal)); exact BK147.out) hb); have n1_ := am (below_step (by repeat (first | (with_reducible first | exact HB.out | apply bal | apply pdn | apply bd1 | refine bst ?_ GE147.out) | exact HB.out)) hb); have n2_ := am (hbox); have n3_ := am ((by rw [hg]; exact (below_size (by repeat (first | (with_reducible first | exact HB.out | apply bal | apply pdn | apply bd1 | refine bst ?_ GE147.out) | exact HB.out))) : w.heap.size ≤ gb148)); have n4_ := am ((by rw [hg]; exact (below_size (by repeat (first | (with_reducible first | exact HB.out | apply bal | apply pdn | apply bd1 | refine bst ?_ GE147.out) | exact HB.out))) : w.heap.size ≤ gb148)); have n5_ := am ((by rw [hg]; exact Nat.ne_of_lt (blk_lt (g := gb147) (o := .cells #[.int .i64 a0_0, .int .i64 a0_1] 84 (0, 0)) (by (with_reducible repeat (first | apply kdn | apply kdr | apply kal)); exact BK147.out)) : gb147 ≠ gb148)); have n6_ := am ((by rw [hg]; exact Nat.ne_of_gt (blk_lt (g := gb147) (o := .cells #[.int .i64 a0_0, .int .i64 a0_1] 84 (0, 0)) (by (with_reducible repeat (first | apply kdn | apply kdr | apply kal)); exact BK147.out)) : gb148 ≠ gb147)); clear BK147; clear HB; have BK147 := n0_; have HB := n1_; have BK148 := n2_; have GW148 := n3_; have GE148 := n4_; have NB147_148 := n5_; have NB148_147 := n6_; clear n0_ n1_ n2_ n3_ n4_ n5_ n6_; clear hb hbox hg; have hnb62 := NB147_148.out; have hnc62 := NB148_147.out; have hcz63_0 : w61.cell? ⟨gb147, 0, none⟩ = some (.int .i64 a0_0) := (kce BK147.out 0).trans rfl; have hcz63_1 : w61.cell? ⟨gb147, 1, none⟩ = some (.int .i64 a0_1) := (kce BK147.out 1).trans rfl; have hfz63_0 := kfr BK147.out 0; have hfz63_1 := kfr BK147.out 1) | ((with_reducible refine gate_callee (f := 117) rfl ?_); refine goesL_ (some 6) rfl rfl Try.func117 (by kernel_rfl) rfl #[.agg #[.int .i64 a0_0, .int .i64 a0_1]] rfl (by (try simp only [mta, mco, mni]); first | done | rfl | (simp only [lnd, lnt]; rfl)) ?_; (with_reducible refine (impl_CodeOk.calls a0_0 a0_1 false _ A3.out).mono ?_); rintro e w64 ⟨rfl, hb⟩; refine ⟨_, rfl, ?_⟩; have n0_ := am (kbb (g := gb147) (o := .cells #[.int .i64 a0_0, .int .i64 a0_1] 84 (0, 0)) (by (with_reducible repeat (first | apply kdn | apply kdr | apply kal)); exact BK147.out) hb); have n1_ := am (kbb (g := gb148) (o := .cells #[.int .i64 a1_0, .int .i64 a1_1, .string a1_2] 60 (0, 0)) (by (with_reducible repeat (first | apply kdn | apply kdr | apply kal)); exact BK148.out) hb); have n2_ := am (below_step (by repeat (first | (with_reducible first | exact HB.out | apply bal | apply pdn | apply bd1 | refine bst ?_ GE147.out | refine bst ?_ GE148.out) | exact HB.out)) hb); clear BK147; clear BK148; clear HB; have BK147 := n0_; have BK148 := n1_; have HB := n2_; clear n0_ n1_ n2_; (try clear hb); (try clear hb2); (try clear hk); (try clear hi)))
  go_ret
  exact ⟨by first | rfl | (simp [errW_none, errW_some] <;> rfl) | (simp [*, errW_none, errW_some] <;> rfl), by repeat (first | (with_reducible first | exact HB.out | apply bal | apply pdn | apply bd1 | refine bst ?_ GE147.out | refine bst ?_ GE148.out) | exact HB.out)⟩

/-! ### impl_plainCode: function 87 -/
def impl_plainCode.f  : Option (Int × Int) := some (1, 0)
set_option maxHeartbeats 8000000 in
set_option maxRecDepth 100000 in
theorem impl_plainCode.calls  (r1 : Int) (r2 : Int) (w : World) (h : impl_plainCode.f  = some (r1, r2)) :
  Calls Try.prog 87 #[] w fun e w' => e = .returned (.agg #[.int .i64 r1, .int .i64 r2]) ∧ Below w.heap.size w w' := by
 have hu84 := Try.underlying84
 have HB := am (Below.refl w.heap.size w)
 have H : (some (1, 0)) = some (r1, r2) := h
 clear h
 simp only [Option.some.injEq, Prod.mk.injEq] at H
 obtain ⟨rfl, rfl⟩ := H
 go_enter Try.func87, Try.ntmps87
 go_wp2_with (first | ((with_reducible refine gate_dst (N := 0) rfl ?_); refine box_event ?hg (N := 0) ?hd (cs := #[.int .i64 0, .int .i64 0]) (t := 84) ?hr ?_; (case hd => rfl); (case hg => rfl); (case hr => first | (go_simp; done) | (go_simp; rfl)); intro gb152 hg w1 hbox hb; have n0_ := am (below_step (by repeat (first | (with_reducible first | exact HB.out | apply bal | apply pdn | apply bd1) | exact HB.out)) hb); have n1_ := am (hbox); have n2_ := am ((by rw [hg]; exact (below_size (by repeat (first | (with_reducible first | exact HB.out | apply bal | apply pdn | apply bd1) | exact HB.out))) : w.heap.size ≤ gb152)); have n3_ := am ((by rw [hg]; exact (below_size (by repeat (first | (with_reducible first | exact HB.out | apply bal | apply pdn | apply bd1) | exact HB.out))) : w.heap.size ≤ gb152)); clear HB; have HB := n0_; have BK152 := n1_; have GW152 := n2_; have GE152 := n3_; clear n0_ n1_ n2_ n3_; clear hb hbox hg; have hcz2_0 : w1.cell? ⟨gb152, 0, none⟩ = some (.int .i64 0) := (kce BK152.out 0).trans rfl; have hcz2_1 : w1.cell? ⟨gb152, 1, none⟩ = some (.int .i64 0) := (kce BK152.out 1).trans rfl; have hfz2_0 := kfr BK152.out 0; have hfz2_1 := kfr BK152.out 1))
 refine bodyPost_ret (results_cell_row rfl _ _ gb152 84 #[.int .i64 1, .int .i64 0] (0, 0) _ rfl (by (with_reducible repeat (first | apply kdn | apply kdr | apply kal)); refine blk_put (cs := #[.int .i64 1, .int .i64 0]) ?_ 1 _ rfl; (with_reducible repeat (first | apply kdn | apply kdr | apply kal)); refine blk_put (cs := #[.int .i64 0, .int .i64 0]) ?_ 0 _ rfl; (with_reducible repeat (first | apply kdn | apply kdr | apply kal)); exact BK152.out) Try.underlying84 rfl (by kernel_rfl)) rfl ?_
 exact ⟨by first | rfl | (simp [errW_none, errW_some] <;> rfl) | (simp [*, errW_none, errW_some] <;> rfl), by repeat (first | (with_reducible first | exact HB.out | apply bal | apply pdn | apply bd1 | refine bst ?_ GE152.out) | exact HB.out)⟩

/-! ### impl_GetVar: function 120 -/
mutual
def impl_GetVar.l0 : Nat → ByteArray → Int → Int → Option (Int × Int × Bool)
 | 0, _, _, _ => none
 | k + 1, x0, x5, x6 => if x6 < (x0.size : Int) then (impl_GetVar.j1 k x0 x5 x6 (decide (x6 < 9))) else (impl_GetVar.j1 k x0 x5 x6 false)
def impl_GetVar.j1 : Nat → ByteArray → Int → Int → Bool → Option (Int × Int × Bool)
 | 0, _, _, _, _ => none
 | k + 1, x0, x5, x6, x15 => if x15 = true then (if 0 ≤ x6 then (if x6 < (x0.size : Int) then (if 0 ≤ (wrap64 (7 * x6)) then (if (wrap64 (bt x0 x6)) < 128 then (if (Go.bits .or .i64 x5 (shl .i64 (Int.tmod (wrap64 (bt x0 x6)) 128) (wrap64 (7 * x6)))) > 4611686018427387904 then (some (0, 0, false)) else (if x6 > 0 then (if (wrap64 (bt x0 x6)) = 0 then (some (0, 0, false)) else (some (Go.bits .or .i64 x5 (shl .i64 (Int.tmod (wrap64 (bt x0 x6)) 128) (wrap64 (7 * x6))), wrap64 (x6 + 1), true))) else (some (Go.bits .or .i64 x5 (shl .i64 (Int.tmod (wrap64 (bt x0 x6)) 128) (wrap64 (7 * x6))), wrap64 (x6 + 1), true)))) else (impl_GetVar.l0 k x0 (Go.bits .or .i64 x5 (shl .i64 (Int.tmod (wrap64 (bt x0 x6)) 128) (wrap64 (7 * x6)))) (wrap64 (x6 + 1)))) else (none)) else (none)) else (none)) else (some (0, 0, false))
end
def impl_GetVar.f (k : Nat) (a0 : ByteArray) : Option (Int × Int × Bool) := impl_GetVar.l0 k a0 0 0
theorem impl_GetVar.mono_l : ∀ k, (∀ y0 y1 y2, LeO (impl_GetVar.l0 k y0 y1 y2) (impl_GetVar.l0 (k + 1) y0 y1 y2)) ∧ (∀ y0 y1 y2 y3, LeO (impl_GetVar.j1 k y0 y1 y2 y3) (impl_GetVar.j1 (k + 1) y0 y1 y2 y3))
 | 0 => ⟨fun _ _ _ r h => by simp [impl_GetVar.l0] at h, fun _ _ _ _ r h => by simp [impl_GetVar.j1] at h⟩
 | k + 1 => by
  obtain ⟨ih0, ih1⟩ := impl_GetVar.mono_l k
  refine ⟨?_, ?_⟩
  ·intro y0 y1 y2
   unfold impl_GetVar.l0
   repeat' first
   | (with_reducible exact ih0 _ _ _)
   | (with_reducible exact ih1 _ _ _ _)
   | (with_reducible exact LeO.refl _)
   | (with_reducible exact LeO.none _)
   | (with_reducible refine LeO.ite ?_ ?_)
   | (with_reducible refine LeO.bind ?_ (fun _ => ?_))
   | exact ih0 _ _ _
   | exact ih1 _ _ _ _
   | exact LeO.none _
   | refine LeO.ite ?_ ?_
   | refine LeO.bind ?_ (fun _ => ?_)
  ·intro y0 y1 y2 y3
   unfold impl_GetVar.j1
   repeat' first
   | (with_reducible exact ih0 _ _ _)
   | (with_reducible exact ih1 _ _ _ _)
   | (with_reducible exact LeO.refl _)
   | (with_reducible exact LeO.none _)
   | (with_reducible refine LeO.ite ?_ ?_)
   | (with_reducible refine LeO.bind ?_ (fun _ => ?_))
   | exact ih0 _ _ _
   | exact ih1 _ _ _ _
   | exact LeO.none _
   | refine LeO.ite ?_ ?_
   | refine LeO.bind ?_ (fun _ => ?_)
theorem impl_GetVar.mono : ∀ a0 k, LeO (impl_GetVar.f k a0) (impl_GetVar.f (k + 1) a0) := by
 intro a0 k
 obtain ⟨ih0, ih1⟩ := impl_GetVar.mono_l k
 unfold impl_GetVar.f
 repeat' first
   | (with_reducible exact ih0 _ _ _)
   | (with_reducible exact ih1 _ _ _ _)
   | (with_reducible exact LeO.refl _)
   | (with_reducible exact LeO.none _)
   | (with_reducible refine LeO.ite ?_ ?_)
   | (with_reducible refine LeO.bind ?_ (fun _ => ?_))
   | exact ih0 _ _ _
   | exact ih1 _ _ _ _
   | exact LeO.none _
   | refine LeO.ite ?_ ?_
   | refine LeO.bind ?_ (fun _ => ?_)
set_option maxHeartbeats 8000000 in
set_option maxRecDepth 100000 in
theorem impl_GetVar.calls (k : Nat) (a0 : ByteArray) (r1 : Int) (r2 : Int) (r3 : Bool) (w : World) (h : impl_GetVar.f k a0 = some (r1, r2, r3)) :
  Calls Try.prog 120 #[.string a0] w fun e w' => e = .returned (.tuple #[.int .i64 r1, .int .i64 r2, .bool r3]) ∧ Drawn0 w w' := by
 have H : (impl_GetVar.l0 k a0 0 0) = some (r1, r2, r3) := h
 clear h
 have H' := am H
 clear H
 go_enter Try.func120, Try.ntmps120
 go_wp2
 go_loopg [5, 6] k (fun kq v5 v6 w' => ∃ (x5_1 : Int) (x6_1 : Int), v5 = .int .i64 x5_1 ∧ v6 = .int .i64 x6_1 ∧ Aside0 (impl_GetVar.l0 kq a0 x5_1 x6_1 = some (r1, r2, r3)) ∧ Aside0 (kq ≤ k) ∧ Drawn0 w w')
 case atStart => exact ⟨(0), (0), (by first | rfl | (simp; done) | (simp [*]; done)), (by first | rfl | (simp; done) | (simp [*]; done)), H', ⟨Nat.le_refl _⟩, by repeat (first | exact Drawn0.refl _ | apply Drawn0.step)⟩
 case round =>
  clear H'
  obtain ⟨x5_1, x6_1, rfl, rfl, HA, HK1, ⟨m1, rfl⟩⟩ := hrel
  cases gk with
  | zero => exact absurd HA.out (by simp [impl_GetVar.l0])
  | succ k1 =>
   have H := HA.out
   clear HA
   simp only [impl_GetVar.l0] at H
   have HC2 := am H
   clear H
   go_upto_region 3 with (fail)
   go_cut [15] (fun v15 wc => ∃ (kq : Nat) (x15_1 : Bool), v15 = .bool x15_1 ∧ Aside0 (impl_GetVar.j1 kq a0 x5_1 x6_1 x15_1 = some (r1, r2, r3)) ∧ Aside0 (kq ≤ k1) ∧ Drawn0 w wc)
   case first =>
    have H := HC2.out
    clear HC2
    by_cases c3 : x6_1 < (a0.size : Int)
    ·rw [if_pos c3] at H
     have c3b0 : decide (x6_1 < (a0.size : Int)) = true := decide_eq_true c3
     clear c3
     (first | rw [c3b0] | (simp only [i64_w, i32_w]; rw [c3b0]) | skip)
     have H' := am H
     clear H
     go_wp2
     go_meet
     case rel => exact ⟨_, (decide (x6_1 < 9)), (by first | rfl | (simp; done) | (simp [*]; done)), H', ⟨by have := HK1.out; first | omega | exact Nat.le_refl _⟩, by repeat (first | exact Drawn0.refl _ | apply Drawn0.step)⟩
    ·rw [if_neg c3] at H
     have c3b0 : decide (x6_1 < (a0.size : Int)) = false := decide_eq_false c3
     clear c3
     (first | rw [c3b0] | (simp only [i64_w, i32_w]; rw [c3b0]) | skip)
     have H' := am H
     clear H
     go_wp2
     go_meet
     case rel => exact ⟨_, (false), (by first | rfl | (simp; done) | (simp [*]; done)), H', ⟨by have := HK1.out; first | omega | exact Nat.le_refl _⟩, by repeat (first | exact Drawn0.refl _ | apply Drawn0.step)⟩
   case rest =>
    clear HC2
    obtain ⟨kq, x15_1, rfl, HA, HJ1, ⟨mc1, rfl⟩⟩ := hcut
    cases kq with
    | zero => exact absurd HA.out (by simp [impl_GetVar.j1])
    | succ kj1 =>
     have H := HA.out
     clear HA
     simp only [impl_GetVar.j1] at H
     by_cases c4 : x15_1 = true
     ·subst c4
      have H1 : (if 0 ≤ x6_1 then (if x6_1 < (a0.size : Int) then (if 0 ≤ (wrap64 (7 * x6_1)) then (if (wrap64 (bt a0 x6_1)) < 128 then (if (Go.bits .or .i64 x5_1 (shl .i64 (Int.tmod (wrap64 (bt a0 x6_1)) 128) (wrap64 (7 * x6_1)))) > 4611686018427387904 then (some (0, 0, false)) else (if x6_1 > 0 then (if (wrap64 (bt a0 x6_1)) = 0 then (some (0, 0, false)) else (some (Go.bits .or .i64 x5_1 (shl .i64 (Int.tmod (wrap64 (bt a0 x6_1)) 128) (wrap64 (7 * x6_1))), wrap64 (x6_1 + 1), true))) else (some (Go.bits .or .i64 x5_1 (shl .i64 (Int.tmod (wrap64 (bt a0 x6_1)) 128) (wrap64 (7 * x6_1))), wrap64 (x6_1 + 1), true)))) else (impl_GetVar.l0 kj1 a0 (Go.bits .or .i64 x5_1 (shl .i64 (Int.tmod (wrap64 (bt a0 x6_1)) 128) (wrap64 (7 * x6_1)))) (wrap64 (x6_1 + 1)))) else (none)) else (none)) else (none)) = some (r1, r2, r3) := by rw [if_pos rfl] at H; exact H
      clear H
      have H := H1
      clear H1
      by_cases c5 : 0 ≤ x6_1
      ·rw [if_pos c5] at H
       have c5b0 : decide (0 ≤ x6_1) = true := decide_eq_true c5
       clear c5
       by_cases c6 : x6_1 < (a0.size : Int)
       ·rw [if_pos c6] at H
        have c6b0 : decide (x6_1 < (a0.size : Int)) = true := decide_eq_true c6
        clear c6
        obtain ⟨ji8, hji8⟩ : ∃ j_ : Int, (wrap64 (7 * x6_1)) = j_ := ⟨_, rfl⟩
        replace H : (if 0 ≤ (ji8) then (if (wrap64 (bt a0 x6_1)) < 128 then (if (Go.bits .or .i64 x5_1 (shl .i64 (Int.tmod (wrap64 (bt a0 x6_1)) 128) (ji8))) > 4611686018427387904 then (some (0, 0, false)) else (if x6_1 > 0 then (if (wrap64 (bt a0 x6_1)) = 0 then (some (0, 0, false)) else (some (Go.bits .or .i64 x5_1 (shl .i64 (Int.tmod (wrap64 (bt a0 x6_1)) 128) (ji8)), wrap64 (x6_1 + 1), true))) else (some (Go.bits .or .i64 x5_1 (shl .i64 (Int.tmod (wrap64 (bt a0 x6_1)) 128) (ji8)), wrap64 (x6_1 + 1), true)))) else (impl_GetVar.l0 kj1 a0 (Go.bits .or .i64 x5_1 (shl .i64 (Int.tmod (wrap64 (bt a0 x6_1)) 128) (ji8))) (wrap64 (x6_1 + 1)))) else (none)) = some (r1, r2, r3) := by first | (rw [hji8] at H; exact H) | (simp only [hji8] at H ⊢; exact H)
        have hji8w : (IntKind.i64.wrap (7 * x6_1)) = ji8 := (i64_w _).trans hji8
        by_cases c9 : 0 ≤ (ji8)
        ·rw [if_pos c9] at H
         have c9b0 := eq_true c9
         have c9b1 : decide (0 ≤ (ji8)) = true := decide_eq_true c9
         clear c9
         obtain ⟨ji10, hji10⟩ : ∃ j_ : Int, (shl .i64 (Int.tmod (wrap64 (bt a0 x6_1)) 128) (ji8)) = j_ := ⟨_, rfl⟩
         replace H : (if (wrap64 (bt a0 x6_1)) < 128 then (if (Go.bits .or .i64 x5_1 (ji10)) > 4611686018427387904 then (some (0, 0, false)) else (if x6_1 > 0 then (if (wrap64 (bt a0 x6_1)) = 0 then (some (0, 0, false)) else (some (Go.bits .or .i64 x5_1 (ji10), wrap64 (x6_1 + 1), true))) else (some (Go.bits .or .i64 x5_1 (ji10), wrap64 (x6_1 + 1), true)))) else (impl_GetVar.l0 kj1 a0 (Go.bits .or .i64 x5_1 (ji10)) (wrap64 (x6_1 + 1)))) = some (r1, r2, r3) := by first | (rw [hji10] at H; exact H) | (simp only [hji10] at H ⊢; exact H)
         have hji10_ : (IntKind.i64.wrap ((Int.tmod (wrap64 (bt a0 x6_1)) 128) * 2 ^ min (ji8).toNat 64)) = ji10 := hji10
         have hji10z : (ji8) ≤ 64 → (IntKind.i64.wrap ((Int.tmod (wrap64 (bt a0 x6_1)) 128) * 2 ^ (ji8).toNat)) = ji10 := shl_small hji10
         have hji10y : (wrap64 ((Int.tmod (wrap64 (bt a0 x6_1)) 128) * 2 ^ min (ji8).toNat 64)) = ji10 := (i64_w _).symm.trans hji10_
         have hji10x : (ji8) ≤ 64 → (wrap64 ((Int.tmod (wrap64 (bt a0 x6_1)) 128) * 2 ^ (ji8).toNat)) = ji10 := fun h_ => (i64_w _).symm.trans (hji10z h_)
         by_cases c11 : (wrap64 (bt a0 x6_1)) < 128
         ·rw [if_pos c11] at H
          have c11b0 : decide ((wrap64 (bt a0 x6_1)) < 128) = true := decide_eq_true c11
          clear c11
          by_cases c12 : (Go.bits .or .i64 x5_1 (ji10)) > 4611686018427387904
          ·rw [if_pos c12] at H
           have c12b0 : decide (4611686018427387904 < (Go.bits .or .i64 x5_1 (ji10))) = true := decide_eq_true c12
           clear c12
           simp only [Option.some.injEq, Prod.mk.injEq] at H
           obtain ⟨rfl, rfl, rfl⟩ := H
           have p7 : 0 ≤ (x6_1 : Int) := of_decide_eq_true (by first | (with_reducible assumption) | assumption)
           have q7 : x6_1 < (a0.size : Int) := of_decide_eq_true (by first | (with_reducible assumption) | assumption)
           have hx7 := bt_at a0 x6_1
           replace p7 := eq_true p7
           replace q7 := eq_true q7
           go_wp2
           go_ret3
           exact ⟨by first | rfl | (simp; done) | (simp only [← hji8, ← hji10] <;> (first | rfl | simp)) | (simp [*]; done), by repeat (first | exact Drawn0.refl _ | apply Drawn0.step)⟩
          ·rw [if_neg c12] at H
           have c12b0 : decide (4611686018427387904 < (Go.bits .or .i64 x5_1 (ji10))) = false := decide_eq_false c12
           clear c12
           by_cases c13 : x6_1 > 0
           ·rw [if_pos c13] at H
            have c13b0 : decide (0 < x6_1) = true := decide_eq_true c13
            clear c13
            by_cases c14 : (wrap64 (bt a0 x6_1)) = 0
            ·rw [if_pos c14] at H
             have c14b0 : ((wrap64 (bt a0 x6_1)) == 0) = true := beq_iff_eq.mpr c14
             have c14b1 : ((wrap64 (bt a0 x6_1)) != 0) = false := bne_eq_false_iff_eq.mpr c14
             clear c14
             simp only [Option.some.injEq, Prod.mk.injEq] at H
             obtain ⟨rfl, rfl, rfl⟩ := H
             have p7 : 0 ≤ (x6_1 : Int) := of_decide_eq_true (by first | (with_reducible assumption) | assumption)
             have q7 : x6_1 < (a0.size : Int) := of_decide_eq_true (by first | (with_reducible assumption) | assumption)
             have hx7 := bt_at a0 x6_1
             replace p7 := eq_true p7
             replace q7 := eq_true q7
             go_wp2
             go_ret3
             exact ⟨by first | rfl | (simp; done) | (simp only [← hji8, ← hji10] <;> (first | rfl | simp)) | (simp [*]; done), by repeat (first | exact Drawn0.refl _ | apply Drawn0.step)⟩
            ·rw [if_neg c14] at H
             have c14b0 : ((wrap64 (bt a0 x6_1)) == 0) = false := beq_eq_false_iff_ne.mpr c14
             have c14b1 : ((wrap64 (bt a0 x6_1)) != 0) = true := bne_iff_ne.mpr c14
             simp only [Option.some.injEq, Prod.mk.injEq] at H
             obtain ⟨rfl, rfl, rfl⟩ := H
             have p7 : 0 ≤ (x6_1 : Int) := of_decide_eq_true (by first | (with_reducible assumption) | assumption)
             have q7 : x6_1 < (a0.size : Int) := of_decide_eq_true (by first | (with_reducible assumption) | assumption)
             have hx7 := bt_at a0 x6_1
             replace p7 := eq_true p7
             replace q7 := eq_true q7
             go_wp2
             go_ret3
             exact ⟨by first | rfl | (simp; done) | (simp only [← hji8, ← hji10] <;> (first | rfl | simp)) | (simp [*]; done), by repeat (first | exact Drawn0.refl _ | apply Drawn0.step)⟩
           ·rw [if_neg c13] at H
            have c13b0 : decide (0 < x6_1) = false := decide_eq_false c13
            clear c13
            simp only [Option.some.injEq, Prod.mk.injEq] at H
            obtain ⟨rfl, rfl, rfl⟩ := H
            have p7 : 0 ≤ (x6_1 : Int) := of_decide_eq_true (by first | (with_reducible assumption) | assumption)
            have q7 : x6_1 < (a0.size : Int) := of_decide_eq_true (by first | (with_reducible assumption) | assumption)
            have hx7 := bt_at a0 x6_1
            replace p7 := eq_true p7
            replace q7 := eq_true q7
            go_wp2
            go_ret3
            exact ⟨by first | rfl | (simp; done) | (simp only [← hji8, ← hji10] <;> (first | rfl | simp)) | (simp [*]; done), by repeat (first | exact Drawn0.refl _ | apply Drawn0.step)⟩
         ·rw [if_neg c11] at H
          have c11b0 : decide ((wrap64 (bt a0 x6_1)) < 128) = false := decide_eq_false c11
          clear c11
          have H' := am H
          clear H
          have p7 : 0 ≤ (x6_1 : Int) := of_decide_eq_true (by first | (with_reducible assumption) | assumption)
          have q7 : x6_1 < (a0.size : Int) := of_decide_eq_true (by first | (with_reducible assumption) | assumption)
          have hx7 := bt_at a0 x6_1
          replace p7 := eq_true p7
          replace q7 := eq_true q7
          go_wp2
          go_roundg kj1
          case measure => have := HK1.out; have := HJ1.out; omega
          case rel => exact ⟨(Go.bits .or .i64 x5_1 (ji10)), (wrap64 (x6_1 + 1)), (by first | rfl | (simp; done) | (simp only [← hji10] <;> (first | rfl | simp)) | (simp [*]; done)), (by first | rfl | (simp; done) | (simp [*]; done)), H', ⟨by have := HK1.out; have := HJ1.out; omega⟩, by repeat (first | exact Drawn0.refl _ | apply Drawn0.step)⟩
        ·rw [if_neg c9] at H
         exact absurd H (by simp)
       ·rw [if_neg c6] at H
        exact absurd H (by simp)
      ·rw [if_neg c5] at H
       exact absurd H (by simp)
     ·replace c4 := Bool.eq_false_iff.mpr c4
      subst c4
      have H1 : (some (0, 0, false)) = some (r1, r2, r3) := by rw [if_neg (show ¬ (false = true) by decide)] at H; exact H
      clear H
      have H := H1
      clear H1
      simp only [Option.some.injEq, Prod.mk.injEq] at H
      obtain ⟨rfl, rfl, rfl⟩ := H
      go_wp2
      go_ret3
      exact ⟨by first | rfl | (simp; done) | (simp [*]; done), by repeat (first | exact Drawn0.refl _ | apply Drawn0.step)⟩

/-- A state of type 119 at block g of W; what its slices lead to came in by w0. -/
def IsS119 (w0 W : World) (g : Nat) (f0 : ByteArray) (f1 : Bool) : Prop := W.heap[g]? = some (.cells #[.string f0, .bool f1] 119 (0, 0)) ∧ w0.heap.size ≤ g
theorem IsS119.grown {w0 W : World} {g : Nat} {f0 : ByteArray} {f1 : Bool} {W1 : World} {row : Option Nat} (h : IsS119 w0 W g f0 f1) (hw : W.grownBy W1 row) (hne : some g ≠ row) : IsS119 w0 W1 g f0 f1 := by
 obtain ⟨hb, hg⟩ := h
 exact ⟨blk_grown hb hw hne, hg⟩
theorem IsS119.own_neN {w0 W : World} {g : Nat} {f0 : ByteArray} {f1 : Bool} {α : Type} {d : Kd α} {e : Nat} {base : Nat} {ok : Nat → Prop} {v : Value} {xs : List α} (h : IsS119 w0 W g f0 f1) (ho : Kd.N d e W base ok v xs) (ht : e ≠ 119) : some g ≠ v.ownBlock := by
 obtain ⟨hb, hg⟩ := h
 exact Kd.N_ne ho hb ht
theorem IsS119.fresh {w0 W : World} {g : Nat} {f0 : ByteArray} {f1 : Bool} (h : IsS119 w0 W g f0 f1) : ∀ k, W.heap.size ≤ k → k ≠ g := by
 obtain ⟨hb, hg⟩ := h
 exact Kd.freshB hb
theorem IsS119.kept {w0 W : World} {g : Nat} {f0 : ByteArray} {f1 : Bool} {W1 : World} {S : Nat → Prop} (h : IsS119 w0 W g f0 f1) (hk : Kept W W1 S) (hne : ¬ S g) : IsS119 w0 W1 g f0 f1 := by
 obtain ⟨hb, hg⟩ := h
 exact ⟨blk_kept hb hk hne, hg⟩
theorem IsS119.below {w0 W : World} {g : Nat} {f0 : ByteArray} {f1 : Bool} {W1 : World} (h : IsS119 w0 W g f0 f1) (hw : Below W.heap.size W W1) : IsS119 w0 W1 g f0 f1 := h.grown (grown_of_below hw none) (by simp)
theorem IsS119.alloc {w0 W : World} {g : Nat} {f0 : ByteArray} {f1 : Bool} (h : IsS119 w0 W g f0 f1) (o : Obj) : IsS119 w0 (W.alloc o) g f0 f1 := h.below (bal (Below.refl _ _) o)
theorem IsS119.drewN {w0 W : World} {g : Nat} {f0 : ByteArray} {f1 : Bool} (h : IsS119 w0 W g f0 f1) (m : Nat) : IsS119 w0 (W.drewN m) g f0 f1 := h
theorem IsS119.drew {w0 W : World} {g : Nat} {f0 : ByteArray} {f1 : Bool} (h : IsS119 w0 W g f0 f1) : IsS119 w0 W.drew g f0 f1 := h
theorem IsS119.at_ {w0 W : World} {g : Nat} {f0 : ByteArray} {f1 : Bool} {w' : World} {m : Nat} (hq : W.drewN m = w') (h : IsS119 w0 W g f0 f1) : IsS119 w0 w' g f0 f1 := by subst hq; exact IsS119.drewN h m
theorem IsS119.apart {w0 W : World} {g : Nat} {f0 : ByteArray} {f1 : Bool} {α : Type} {d : Kd α} {e : Nat} {base : Nat} {ok : Nat → Prop} {v : Value} {xs : List α} (h : IsS119 w0 W g f0 f1) (ho : d.R e W base ok v xs) (ht : ∀ q, q ∈ e :: d.E → q ≠ 119) : d.R e W base (fun k => ok k ∧ k ≠ g) v xs := by
 obtain ⟨hb, hg⟩ := h
 exact Kd.R_types ho hb ht
theorem IsS119.own_ne {w0 W : World} {g : Nat} {f0 : ByteArray} {f1 : Bool} {α : Type} {d : Kd α} {e : Nat} {base : Nat} {ok : Nat → Prop} {v : Value} {xs : List α} (h : IsS119 w0 W g f0 f1) (ho : d.R e W base ok v xs) (ht : e ≠ 119) : some g ≠ v.ownBlock := by
 obtain ⟨hb, hg⟩ := h
 exact Kd.R_ne ho hb ht
theorem IsS119.apartQ {w0 W : World} {g : Nat} {f0 : ByteArray} {f1 : Bool} {α : Type} {d : Kd α} {e : Nat} {base : Nat} {ok : Nat → Prop} {v : Value} {xs : List α} (h : IsS119 w0 W g f0 f1) (ho : d.Q e W base ok v xs) (ht : ∀ q, q ∈ e :: d.E → q ≠ 119) : d.Q e W base (fun k => ok k ∧ k ≠ g) v xs := by
 obtain ⟨hb, hg⟩ := h
 exact Kd.Q_types ho hb ht
theorem IsS119.own_neQ {w0 W : World} {g : Nat} {f0 : ByteArray} {f1 : Bool} {α : Type} {d : Kd α} {e : Nat} {base : Nat} {ok : Nat → Prop} {v : Value} {xs : List α} (h : IsS119 w0 W g f0 f1) (ho : d.Q e W base ok v xs) (ht : e ≠ 119) : some g ≠ v.ownBlock := by
 obtain ⟨hb, hg⟩ := h
 exact Kd.Q_ne ho hb ht
theorem IsS119.apartS {w0 W : World} {g : Nat} {f0 : ByteArray} {f1 : Bool} {α : Type} {d : Kd α} {e : Nat} {base : Nat} {ok : Nat → Prop} {v : Value} {xs : List α} (h : IsS119 w0 W g f0 f1) (ho : d.S e W base ok v xs) (ht : ∀ q, q ∈ e :: d.E → q ≠ 119) : d.S e W base (fun k => ok k ∧ k ≠ g) v xs := by
 obtain ⟨hb, hg⟩ := h
 exact Kd.S_types ho hb ht
theorem IsS119.own_neS {w0 W : World} {g : Nat} {f0 : ByteArray} {f1 : Bool} {α : Type} {d : Kd α} {e : Nat} {base : Nat} {ok : Nat → Prop} {v : Value} {xs : List α} (h : IsS119 w0 W g f0 f1) (ho : d.S e W base ok v xs) (ht : e ≠ 119) : some g ≠ v.ownBlock := by
 obtain ⟨hb, hg⟩ := h
 exact Kd.S_ne ho hb ht
theorem IsS119.lt {w0 W : World} {g : Nat} {f0 : ByteArray} {f1 : Bool} (h : IsS119 w0 W g f0 f1) : g < W.heap.size := by
 obtain ⟨hb, hg⟩ := h
 exact blk_lt hb
theorem IsS119.ge {w0 W : World} {g : Nat} {f0 : ByteArray} {f1 : Bool} (h : IsS119 w0 W g f0 f1) : w0.heap.size ≤ g := by
 obtain ⟨hb, hg⟩ := h
 exact hg
theorem IsS119.ne_blk {w0 W : World} {g : Nat} {f0 : ByteArray} {f1 : Bool} {a : Nat} {cs : Array Value} {t : TypeId} {fr : Nat × Nat} (h : IsS119 w0 W g f0 f1) (hb2 : W.heap[a]? = some (.cells cs t fr)) (ht : t ≠ 119) : g ≠ a := by
 obtain ⟨hb, hg⟩ := h
 rintro rfl
 rw [hb] at hb2
 injection hb2 with hb2
 injection hb2 with _ ht2
 exact ht ht2.symm
theorem IsS119.far {w0 W : World} {g : Nat} {f0 : ByteArray} {f1 : Bool} {p : Addr} (h : IsS119 w0 W g f0 f1) (hne : g ≠ p.block) (u : Value) : IsS119 w0 (W.setCell p u) g f0 f1 := by
 obtain ⟨hb, hg⟩ := h
 exact ⟨blk_far hb hne u, hg⟩
theorem cellS119_0 {W : World} {g : Nat} {f0 : ByteArray} {f1 : Bool} (h : W.heap[g]? = some (.cells #[.string f0, .bool f1] 119 (0, 0))) : W.cell? ⟨g, 0, none⟩ = some (.string f0) := (kce h 0).trans rfl
theorem IsS119.set_0 {w0 W : World} {g : Nat} {f0 : ByteArray} {f1 : Bool} (h : IsS119 w0 W g f0 f1) (x : ByteArray) : IsS119 w0 (W.setCell ⟨g, 0, none⟩ (.string x)) g x f1 := by
 obtain ⟨hb, hg⟩ := h
 exact ⟨by simpa using blk_set hb 0 (.string x), hg⟩
theorem cellS119_1 {W : World} {g : Nat} {f0 : ByteArray} {f1 : Bool} (h : W.heap[g]? = some (.cells #[.string f0, .bool f1] 119 (0, 0))) : W.cell? ⟨g, 1, none⟩ = some (.bool f1) := (kce h 1).trans rfl
theorem IsS119.set_1 {w0 W : World} {g : Nat} {f0 : ByteArray} {f1 : Bool} (h : IsS119 w0 W g f0 f1) (x : Bool) : IsS119 w0 (W.setCell ⟨g, 1, none⟩ (.bool x)) g f0 x := by
 obtain ⟨hb, hg⟩ := h
 exact ⟨by simpa using blk_set hb 1 (.bool x), hg⟩
theorem IsS119.new (w0 W : World) (f0 : ByteArray) (f1 : Bool) (hB : Below w0.heap.size w0 W) : IsS119 w0 (W.alloc (.cells #[.string f0, .bool f1] 119)) W.heap.size f0 f1 := ⟨by simpa using heap_alloc_new W _, hB.size⟩

/-! ### impl_binary_number: function 92 -/
def impl_binary_number.f (k : Nat) (s0_0 : ByteArray) (s0_1 : Bool) : Option (Int × ByteArray × Bool) := (impl_GetVar.f k s0_0).bind fun bt153 => (if bt153.2.2 = true then (if 0 ≤ bt153.2.1 then (if bt153.2.1 ≤ (s0_0.size : Int) then (some (bt153.1, s0_0.extract (bt153.2.1 : Int).toNat s0_0.size, s0_1)) else (none)) else (none)) else (if 0 ≤ bt153.2.1 then (if bt153.2.1 ≤ (s0_0.size : Int) then (some (bt153.1, s0_0.extract (bt153.2.1 : Int).toNat s0_0.size, true)) else (none)) else (none)))
theorem impl_binary_number.mono : ∀ a0 a1 k, LeO (impl_binary_number.f k a0 a1) (impl_binary_number.f (k + 1) a0 a1) := by
 intro a0 a1 k
 unfold impl_binary_number.f
 repeat' first
   | (with_reducible exact impl_GetVar.mono _ _)
   | (with_reducible exact LeO.refl _)
   | (with_reducible exact LeO.none _)
   | (with_reducible refine LeO.ite ?_ ?_)
   | (with_reducible refine LeO.bind ?_ (fun _ => ?_))
   | exact impl_GetVar.mono _ _
   | exact LeO.none _
   | refine LeO.ite ?_ ?_
   | refine LeO.bind ?_ (fun _ => ?_)
set_option maxHeartbeats 8000000 in
set_option maxRecDepth 100000 in
theorem impl_binary_number.calls (k : Nat) (g : Nat) (s0_0 : ByteArray) (s0_1 : Bool) (r1 : Int) (r2 : ByteArray) (r3 : Bool) (w0 w : World) (hI : IsS119 w0 w g s0_0 s0_1) (hB : Below w0.heap.size w0 w) (h : impl_binary_number.f k s0_0 s0_1 = some (r1, r2, r3)) :
  Calls Try.prog 92 #[.pointer (some ⟨g, 0, none⟩)] w fun e w' => e = .returned (.int .i64 r1) ∧ IsS119 w0 w' g r2 r3 ∧ Below w0.heap.size w0 w' ∧ KeepBut w w' g none := by
 have HI0 := am hI
 have HK := am (KeepBut.refl w g none)
 have HL := am hB.size
 clear hI
 have HW0 := am hB.size
 have HB := am hB
 clear hB
 have H : ((impl_GetVar.f k s0_0).bind fun bt153 => (if bt153.2.2 = true then (if 0 ≤ bt153.2.1 then (if bt153.2.1 ≤ (s0_0.size : Int) then (some (bt153.1, s0_0.extract (bt153.2.1 : Int).toNat s0_0.size, s0_1)) else (none)) else (none)) else (if 0 ≤ bt153.2.1 then (if bt153.2.1 ≤ (s0_0.size : Int) then (some (bt153.1, s0_0.extract (bt153.2.1 : Int).toNat s0_0.size, true)) else (none)) else (none)))) = some (r1, r2, r3) := h
 clear h
 replace H := Option.bind_eq_some_iff.mp H
 obtain ⟨⟨t153, t154, t155⟩, A20, H⟩ := H
 replace H : (if t155 = true then (if 0 ≤ t154 then (if t154 ≤ (s0_0.size : Int) then (some (t153, s0_0.extract (t154 : Int).toNat s0_0.size, s0_1)) else (none)) else (none)) else (if 0 ≤ t154 then (if t154 ≤ (s0_0.size : Int) then (some (t153, s0_0.extract (t154 : Int).toNat s0_0.size, true)) else (none)) else (none))) = some (r1, r2, r3) := H
 have A2 := am A20
 clear A20
 by_cases c3 : t155 = true
 ·subst c3
  have H1 : (if 0 ≤ t154 then (if t154 ≤ (s0_0.size : Int) then (some (t153, s0_0.extract (t154 : Int).toNat s0_0.size, s0_1)) else (none)) else (none)) = some (r1, r2, r3) := by rw [if_pos rfl] at H; exact H
  clear H
  have H := H1
  clear H1
  by_cases c4 : 0 ≤ t154
  ·rw [if_pos c4] at H
   have c4b0 := eq_true c4
   have c4b1 : decide (0 ≤ t154) = true := decide_eq_true c4
   clear c4
   by_cases c5 : t154 ≤ (s0_0.size : Int)
   ·rw [if_pos c5] at H
    have c5b0 := eq_true c5
    have c5b1 : decide (t154 ≤ (s0_0.size : Int)) = true := decide_eq_true c5
    clear c5
    simp only [Option.some.injEq, Prod.mk.injEq] at H
    obtain ⟨rfl, rfl, rfl⟩ := H
    obtain ⟨HGz6, hgz6⟩ := HI0.out
    have hcz6_0 := cellS119_0 HGz6
    have hcz6_1 := cellS119_1 HGz6
    have hfz6_0 := kfr HGz6 0
    have hfz6_1 := kfr HGz6 1
    clear HGz6 hgz6
    go_enter Try.func92, Try.ntmps92
    go_wp2_with (first | ((with_reducible refine gate_callee (f := 120) rfl ?_); refine goesL_ (some 11) rfl rfl Try.func120 (by kernel_rfl) rfl #[.string s0_0] rfl (by (try simp only [mta, mco, mni]); first | done | rfl | (simp only [lnd, lnt]; rfl)) ?_; (with_reducible refine (impl_GetVar.calls k s0_0 t153 t154 true _ A2.out).mono ?_); rintro e w' ⟨rfl, ⟨nd, rfl⟩⟩; refine ⟨_, rfl, ?_⟩; (try (rw [drewN_self w]; generalize hq_ : World.drewN w _ = w; have n0_ := am (IsS119.at_ hq_ HI0.out); have n1_ := am (keep_at hq_ HK.out); have n2_ := am (below_at hq_ HB.out); clear hq_ HI0 HK HB; have HI0 := n0_; have HK := n1_; have HB := n2_; clear n0_ n1_ n2_; (try (obtain ⟨HGqHI0, _⟩ := HI0.out)); (try (have hcqHI0_0 := cellS119_0 HGqHI0)); (try (have hfqHI0_0 := kfr HGqHI0 0)); (try (have hcqHI0_1 := cellS119_1 HGqHI0)); (try (have hfqHI0_1 := kfr HGqHI0 1)); (try (clear HGqHI0))))))
    go_ret
    exact ⟨by first | rfl | (simp [errW_none, errW_some] <;> rfl) | (simp [*, errW_none, errW_some] <;> rfl), by repeat (first | (with_reducible first | exact HI0.out | apply IsS119.alloc | apply IsS119.drewN | apply IsS119.drew | apply IsS119.set_0 | apply IsS119.set_1) | exact HI0.out), by repeat (first | (with_reducible first | exact HB.out | apply bal | apply pdn | apply bd1 | refine bst ?_ (IsS119.ge HI0.out)) | exact HB.out), by repeat (first | (with_reducible first | exact HK.out | apply KeepBut.set_ | apply keep_drewN | apply keep_drew | apply keep_alloc) | exact HK.out)⟩
   ·rw [if_neg c5] at H
    exact absurd H (by simp)
  ·rw [if_neg c4] at H
   exact absurd H (by simp)
 ·replace c3 := Bool.eq_false_iff.mpr c3
  subst c3
  have H1 : (if 0 ≤ t154 then (if t154 ≤ (s0_0.size : Int) then (some (t153, s0_0.extract (t154 : Int).toNat s0_0.size, true)) else (none)) else (none)) = some (r1, r2, r3) := by rw [if_neg (show ¬ (false = true) by decide)] at H; exact H
  clear H
  have H := H1
  clear H1
  by_cases c7 : 0 ≤ t154
  ·rw [if_pos c7] at H
   have c7b0 := eq_true c7
   have c7b1 : decide (0 ≤ t154) = true := decide_eq_true c7
   clear c7
   by_cases c8 : t154 ≤ (s0_0.size : Int)
   ·rw [if_pos c8] at H
    have c8b0 := eq_true c8
    have c8b1 : decide (t154 ≤ (s0_0.size : Int)) = true := decide_eq_true c8
    clear c8
    simp only [Option.some.injEq, Prod.mk.injEq] at H
    obtain ⟨rfl, rfl, rfl⟩ := H
    obtain ⟨HGz9, hgz9⟩ := HI0.out
    have hcz9_0 := cellS119_0 HGz9
    have hcz9_1 := cellS119_1 HGz9
    have hfz9_0 := kfr HGz9 0
    have hfz9_1 := kfr HGz9 1
    clear HGz9 hgz9
    go_enter Try.func92, Try.ntmps92
    go_wp2_with (first | ((with_reducible refine gate_callee (f := 120) rfl ?_); refine goesL_ (some 11) rfl rfl Try.func120 (by kernel_rfl) rfl #[.string s0_0] rfl (by (try simp only [mta, mco, mni]); first | done | rfl | (simp only [lnd, lnt]; rfl)) ?_; (with_reducible refine (impl_GetVar.calls k s0_0 t153 t154 false _ A2.out).mono ?_); rintro e w' ⟨rfl, ⟨nd, rfl⟩⟩; refine ⟨_, rfl, ?_⟩; (try (rw [drewN_self w]; generalize hq_ : World.drewN w _ = w; have n0_ := am (IsS119.at_ hq_ HI0.out); have n1_ := am (keep_at hq_ HK.out); have n2_ := am (below_at hq_ HB.out); clear hq_ HI0 HK HB; have HI0 := n0_; have HK := n1_; have HB := n2_; clear n0_ n1_ n2_; (try (obtain ⟨HGqHI0, _⟩ := HI0.out)); (try (have hcqHI0_0 := cellS119_0 HGqHI0)); (try (have hfqHI0_0 := kfr HGqHI0 0)); (try (have hcqHI0_1 := cellS119_1 HGqHI0)); (try (have hfqHI0_1 := kfr HGqHI0 1)); (try (clear HGqHI0))))))
    go_ret
    exact ⟨by first | rfl | (simp [errW_none, errW_some] <;> rfl) | (simp [*, errW_none, errW_some] <;> rfl), by repeat (first | (with_reducible first | exact HI0.out | apply IsS119.alloc | apply IsS119.drewN | apply IsS119.drew | apply IsS119.set_0 | apply IsS119.set_1) | exact HI0.out), by repeat (first | (with_reducible first | exact HB.out | apply bal | apply pdn | apply bd1 | refine bst ?_ (IsS119.ge HI0.out)) | exact HB.out), by repeat (first | (with_reducible first | exact HK.out | apply KeepBut.set_ | apply keep_drewN | apply keep_drew | apply keep_alloc) | exact HK.out)⟩
   ·rw [if_neg c8] at H
    exact absurd H (by simp)
  ·rw [if_neg c7] at H
   exact absurd H (by simp)

end Go.Proofs.Ythphhklbliambaa.MFnExactGetOp
