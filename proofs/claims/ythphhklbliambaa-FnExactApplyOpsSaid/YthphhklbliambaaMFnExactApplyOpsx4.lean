-- Written by a program of this session (wip/tools/myprint.py) over the kit's print: it is not the kit's print.
import Derived.Test.YthphhklbliambaaExtra
import Derived.Lib.Agree
import Derived.Ground.NamesProg
import Derived.Shelf.Lay
import Derived.Shelf.Strings.Repeat
import Derived.Test.YthphhklbliambaaMFnExactApplyOpsx0
import Derived.Test.YthphhklbliambaaMFnExactApplyOpsx2
import Derived.Test.YthphhklbliambaaMFnExactApplyOpsx3
namespace Go.Proofs.Ythphhklbliambaa.MFnExactApplyOps
open Go.RowKit Go.Proofs.YthphhklbliambaaW.PrintWords Go.Proofs.YthphhklbliambaaW.PrintLast Go.Proofs.YthphhklbliambaaW.PrintMore
open List renaming setIfInBounds_toArray → sit, set_cons_zero → scz, set_cons_succ → scs, map_toArray → mta, map_cons → mco, map_nil → mni, length_drop → lnd, length_take → lnt
attribute [local go_sem] max2_int min2_int max_two min_two max_three min_three max_four min_four   -- for this text's walks alone
set_option linter.unusedVariables false
set_option linter.unusedSimpArgs false

/-! ### impl_OpOk: function 86 -/
def impl_OpOk.j0 : Nat → Int → Bool → Int → Int → Int → Int → ByteArray → Option (Bool)
 | 0, _, _, _, _, _, _, _ => none
 | k + 1, x9, x10, x143000, x143001, x144000, x144001, x144002 => if x10 = true then (if x144001 = 0 then (some (x144002.toList == ([] : List UInt8))) else (some false)) else (if x9 = 2 then (if x144001 = 0 then (some (decide ((x144002.size : Int) ≤ 64))) else (some false)) else (if x9 = 3 then (if x143000 = 1 then ((impl_between.f x144001 0 64).bind fun t145 => (if t145 = true then (some (decide ((x144002.size : Int) ≤ 64))) else (some false))) else (some false)) else (if x9 = 4 then (if x143000 = 1 then (if x144001 = 0 then (some (decide ((x144002.size : Int) ≤ 64))) else (some false)) else (some false)) else (if x9 = 5 then (if x143000 = 1 then ((impl_between.f x144001 0 64).bind fun t146 => (if t146 = true then (some (x144002.toList == ([] : List UInt8))) else (some false))) else (some false)) else (some false)))))
def impl_OpOk.f (k : Nat) (a0_0 : Int) (a0_1 : Int) (a1_0 : Int) (a1_1 : Int) (a1_2 : ByteArray) : Option (Bool) := (impl_CodeOk.f a0_0 a0_1).bind fun t144 => (if t144 = true then (if a1_0 = 1 then (impl_OpOk.j0 k a1_0 (a1_0 == 1) a0_0 a0_1 a1_0 a1_1 a1_2) else (impl_OpOk.j0 k a1_0 (a1_0 == 6) a0_0 a0_1 a1_0 a1_1 a1_2)) else (some false))
theorem impl_OpOk.mono_l : ∀ k, (∀ y0 y1 y2 y3 y4 y5 y6, LeO (impl_OpOk.j0 k y0 y1 y2 y3 y4 y5 y6) (impl_OpOk.j0 (k + 1) y0 y1 y2 y3 y4 y5 y6))
 | 0 => fun _ _ _ _ _ _ _ r h => by simp [impl_OpOk.j0] at h
 | k + 1 => by
  have ih0 := impl_OpOk.mono_l k
  ·intro y0 y1 y2 y3 y4 y5 y6
   unfold impl_OpOk.j0
   repeat' first
   | (with_reducible exact ih0 _ _ _ _ _ _ _)
   | (with_reducible exact LeO.refl _)
   | (with_reducible exact LeO.none _)
   | (with_reducible refine LeO.ite ?_ ?_)
   | (with_reducible refine LeO.bind ?_ (fun _ => ?_))
   | exact ih0 _ _ _ _ _ _ _
   | exact LeO.none _
   | refine LeO.ite ?_ ?_
   | refine LeO.bind ?_ (fun _ => ?_)
theorem impl_OpOk.mono : ∀ a0 a1 a2 a3 a4 k, LeO (impl_OpOk.f k a0 a1 a2 a3 a4) (impl_OpOk.f (k + 1) a0 a1 a2 a3 a4) := by
 intro a0 a1 a2 a3 a4 k
 have ih0 := impl_OpOk.mono_l k
 unfold impl_OpOk.f
 repeat' first
   | (with_reducible exact ih0 _ _ _ _ _ _ _)
   | (with_reducible exact LeO.refl _)
   | (with_reducible exact LeO.none _)
   | (with_reducible refine LeO.ite ?_ ?_)
   | (with_reducible refine LeO.bind ?_ (fun _ => ?_))
   | exact ih0 _ _ _ _ _ _ _
   | exact LeO.none _
   | refine LeO.ite ?_ ?_
   | refine LeO.bind ?_ (fun _ => ?_)
set_option maxHeartbeats 8000000 in
set_option maxRecDepth 100000 in
theorem impl_OpOk.calls (k : Nat) (a0_0 : Int) (a0_1 : Int) (a1_0 : Int) (a1_1 : Int) (a1_2 : ByteArray) (r : Bool) (w : World) (h : impl_OpOk.f k a0_0 a0_1 a1_0 a1_1 a1_2 = some r) :
  Calls Try.prog 86 #[.agg #[.int .i64 a0_0, .int .i64 a0_1], .agg #[.int .i64 a1_0, .int .i64 a1_1, .string a1_2]] w fun e w' => e = .returned (.bool r) ∧ Below w.heap.size w w' := by
 have hu84 := Try.underlying84
 have hu60 := Try.underlying60
 have HB := am (Below.refl w.heap.size w)
 have H : ((impl_CodeOk.f a0_0 a0_1).bind fun t144 => (if t144 = true then (if a1_0 = 1 then (impl_OpOk.j0 k a1_0 (a1_0 == 1) a0_0 a0_1 a1_0 a1_1 a1_2) else (impl_OpOk.j0 k a1_0 (a1_0 == 6) a0_0 a0_1 a1_0 a1_1 a1_2)) else (some false))) = some r := h
 clear h
 replace H := Option.bind_eq_some_iff.mp H
 obtain ⟨t144, A30, H⟩ := H
 replace H : (if t144 = true then (if a1_0 = 1 then (impl_OpOk.j0 k a1_0 (a1_0 == 1) a0_0 a0_1 a1_0 a1_1 a1_2) else (impl_OpOk.j0 k a1_0 (a1_0 == 6) a0_0 a0_1 a1_0 a1_1 a1_2)) else (some false)) = some r := H
 have A3 := am A30
 clear A30
 by_cases c4 : t144 = true
 ·subst c4
  have H1 : (if a1_0 = 1 then (impl_OpOk.j0 k a1_0 (a1_0 == 1) a0_0 a0_1 a1_0 a1_1 a1_2) else (impl_OpOk.j0 k a1_0 (a1_0 == 6) a0_0 a0_1 a1_0 a1_1 a1_2)) = some r := by rw [if_pos rfl] at H; exact H
  clear H
  have H := H1
  clear H1
  have HC5 := am H
  clear H
  go_enter Try.func86, Try.ntmps86
  go_upto_if 10 with (first | ((with_reducible refine gate_dst (N := 2) rfl ?_); (try (refine gate_guard (by rfl) ?_; dsimp only)); refine box_event ?hg (N := 2) ?hd (cs := #[.int .i64 a0_0, .int .i64 a0_1]) (t := 84) ?hr ?_; (case hd => rfl); (case hg => rfl); (case hr => first | (go_simp; done) | (go_simp; rfl)); intro gb142 hg w6 hbox hb; have n0_ := am (below_step (by repeat (first | (with_reducible first | exact HB.out | apply bal | apply pdn | apply bd1) | exact HB.out)) hb); have n1_ := am (hbox); have n2_ := am ((by rw [hg]; exact (below_size (by repeat (first | (with_reducible first | exact HB.out | apply bal | apply pdn | apply bd1) | exact HB.out))) : w.heap.size ≤ gb142)); have n3_ := am ((by rw [hg]; exact (below_size (by repeat (first | (with_reducible first | exact HB.out | apply bal | apply pdn | apply bd1) | exact HB.out))) : w.heap.size ≤ gb142)); clear HB; have HB := n0_; have BK142 := n1_; have GW142 := n2_; have GE142 := n3_; clear n0_ n1_ n2_ n3_; clear hb hbox hg) | ((with_reducible refine gate_dst (N := 3) rfl ?_); (try (refine gate_guard (by rfl) ?_; dsimp only)); refine box_event ?hg (N := 3) ?hd (cs := #[.int .i64 a1_0, .int .i64 a1_1, .string a1_2]) (t := 60) ?hr ?_; (case hd => rfl); (case hg => rfl); (case hr => first | (go_simp; done) | (go_simp; rfl)); intro gb143 hg w7 hbox hb; have n0_ := am (kbb (g := gb142) (o := .cells #[.int .i64 a0_0, .int .i64 a0_1] 84 (0, 0)) (by (with_reducible repeat (first | apply kdn | apply kdr | apply kal)); exact BK142.out) hb); have n1_ := am (below_step (by repeat (first | (with_reducible first | exact HB.out | apply bal | apply pdn | apply bd1 | refine bst ?_ GE142.out) | exact HB.out)) hb); have n2_ := am (hbox); have n3_ := am ((by rw [hg]; exact (below_size (by repeat (first | (with_reducible first | exact HB.out | apply bal | apply pdn | apply bd1 | refine bst ?_ GE142.out) | exact HB.out))) : w.heap.size ≤ gb143)); have n4_ := am ((by rw [hg]; exact (below_size (by repeat (first | (with_reducible first | exact HB.out | apply bal | apply pdn | apply bd1 | refine bst ?_ GE142.out) | exact HB.out))) : w.heap.size ≤ gb143)); have n5_ := am ((by rw [hg]; exact Nat.ne_of_lt (blk_lt (g := gb142) (o := .cells #[.int .i64 a0_0, .int .i64 a0_1] 84 (0, 0)) (by (with_reducible repeat (first | apply kdn | apply kdr | apply kal)); exact BK142.out)) : gb142 ≠ gb143)); have n6_ := am ((by rw [hg]; exact Nat.ne_of_gt (blk_lt (g := gb142) (o := .cells #[.int .i64 a0_0, .int .i64 a0_1] 84 (0, 0)) (by (with_reducible repeat (first | apply kdn | apply kdr | apply kal)); exact BK142.out)) : gb143 ≠ gb142)); clear BK142; clear HB; have BK142 := n0_; have HB := n1_; have BK143 := n2_; have GW143 := n3_; have GE143 := n4_; have NB142_143 := n5_; have NB143_142 := n6_; clear n0_ n1_ n2_ n3_ n4_ n5_ n6_; clear hb hbox hg; have hnb8 := NB142_143.out; have hnc8 := NB143_142.out; have hcz9_0 : w7.cell? ⟨gb142, 0, none⟩ = some (.int .i64 a0_0) := (kce BK142.out 0).trans rfl; have hcz9_1 : w7.cell? ⟨gb142, 1, none⟩ = some (.int .i64 a0_1) := (kce BK142.out 1).trans rfl; have hfz9_0 := kfr BK142.out 0; have hfz9_1 := kfr BK142.out 1) | ((with_reducible refine gate_callee (f := 117) rfl ?_); refine goesL_ (some 6) rfl rfl Try.func117 (by kernel_rfl) rfl #[.agg #[.int .i64 a0_0, .int .i64 a0_1]] rfl (by (try simp only [mta, mco, mni]); first | done | rfl | (simp only [lnd, lnt]; rfl)) ?_; (with_reducible refine (impl_CodeOk.calls a0_0 a0_1 true _ A3.out).mono ?_); rintro e w10 ⟨rfl, hb⟩; refine ⟨_, rfl, ?_⟩; have n0_ := am (kbb (g := gb142) (o := .cells #[.int .i64 a0_0, .int .i64 a0_1] 84 (0, 0)) (by (with_reducible repeat (first | apply kdn | apply kdr | apply kal)); exact BK142.out) hb); have n1_ := am (kbb (g := gb143) (o := .cells #[.int .i64 a1_0, .int .i64 a1_1, .string a1_2] 60 (0, 0)) (by (with_reducible repeat (first | apply kdn | apply kdr | apply kal)); exact BK143.out) hb); have n2_ := am (below_step (by repeat (first | (with_reducible first | exact HB.out | apply bal | apply pdn | apply bd1 | refine bst ?_ GE142.out | refine bst ?_ GE143.out) | exact HB.out)) hb); clear BK142; clear BK143; clear HB; have BK142 := n0_; have BK143 := n1_; have HB := n2_; clear n0_ n1_ n2_; (try clear hb); (try clear hb2); (try clear hk); (try clear hi); have hcz11_0 : w10.cell? ⟨gb143, 0, none⟩ = some (.int .i64 a1_0) := (kce BK143.out 0).trans rfl; have hcz11_1 : w10.cell? ⟨gb143, 1, none⟩ = some (.int .i64 a1_1) := (kce BK143.out 1).trans rfl; have hcz11_2 : w10.cell? ⟨gb143, 2, none⟩ = some (.string a1_2) := (kce BK143.out 2).trans rfl; have hfz11_0 := kfr BK143.out 0; have hfz11_1 := kfr BK143.out 1; have hfz11_2 := kfr BK143.out 2))
  (try simp only [Act.put, sit, scz, scs])
  go_cut [10] (fun v10 wc => ∃ (kq : Nat) (x10_4 : Bool), v10 = .bool x10_4 ∧ Aside0 (impl_OpOk.j0 kq a1_0 x10_4 a0_0 a0_1 a1_0 a1_1 a1_2 = some r) ∧ Aside0 (kq ≤ k) ∧ Aside0 (wc.heap[gb142]? = some (.cells #[.int .i64 a0_0, .int .i64 a0_1] 84 (0, 0))) ∧ Aside0 (wc.heap[gb143]? = some (.cells #[.int .i64 a1_0, .int .i64 a1_1, .string a1_2] 60 (0, 0))) ∧ Aside0 (Below w.heap.size w wc))
  case first =>
   have H := HC5.out
   clear HC5
   by_cases c12 : a1_0 = 1
   ·rw [if_pos c12] at H
    have c12b0 : (a1_0 == 1) = true := beq_iff_eq.mpr c12
    have c12b1 : (a1_0 != 1) = false := bne_eq_false_iff_eq.mpr c12
    clear c12
    (first | rw [c12b0] | (simp only [i64_w, i32_w]; rw [c12b0]) | skip)
    have H' := am H
    clear H
    go_wp2
    go_meet
    case rel => exact ⟨_, ((a1_0 == 1)), (by first | rfl | (simp; done) | (simp [*]; done)), H', ⟨by first | omega | exact Nat.le_refl _⟩, ⟨by (with_reducible repeat (first | apply kdn | apply kdr | apply kal)); exact BK142.out⟩, ⟨by (with_reducible repeat (first | apply kdn | apply kdr | apply kal)); exact BK143.out⟩, ⟨by repeat (first | (with_reducible first | exact HB.out | apply bal | apply pdn | apply bd1 | refine bst ?_ GE142.out | refine bst ?_ GE143.out) | exact HB.out)⟩⟩
   ·rw [if_neg c12] at H
    have c12b0 : (a1_0 == 1) = false := beq_eq_false_iff_ne.mpr c12
    have c12b1 : (a1_0 != 1) = true := bne_iff_ne.mpr c12
    (first | rw [c12b0] | (simp only [i64_w, i32_w]; rw [c12b0]) | skip)
    have H' := am H
    clear H
    go_wp2
    go_meet
    case rel => exact ⟨_, ((a1_0 == 6)), (by first | rfl | (simp; done) | (simp [*]; done)), H', ⟨by first | omega | exact Nat.le_refl _⟩, ⟨by (with_reducible repeat (first | apply kdn | apply kdr | apply kal)); exact BK142.out⟩, ⟨by (with_reducible repeat (first | apply kdn | apply kdr | apply kal)); exact BK143.out⟩, ⟨by repeat (first | (with_reducible first | exact HB.out | apply bal | apply pdn | apply bd1 | refine bst ?_ GE142.out | refine bst ?_ GE143.out) | exact HB.out)⟩⟩
  case rest =>
   clear HC5
   obtain ⟨kq, x10_4, rfl, HA, HJ4, BK142, BK143, HB⟩ := hcut
   cases kq with
   | zero => exact absurd HA.out (by simp [impl_OpOk.j0])
   | succ kj4 =>
    have H := HA.out
    clear HA
    simp only [impl_OpOk.j0] at H
    by_cases c13 : x10_4 = true
    ·subst c13
     have H1 : (if a1_1 = 0 then (some (a1_2.toList == ([] : List UInt8))) else (some false)) = some r := by rw [if_pos rfl] at H; exact H
     clear H
     have H := H1
     clear H1
     by_cases c14 : a1_1 = 0
     ·rw [if_pos c14] at H
      have c14b0 : (a1_1 == 0) = true := beq_iff_eq.mpr c14
      have c14b1 : (a1_1 != 0) = false := bne_eq_false_iff_eq.mpr c14
      clear c14
      obtain rfl := Option.some.inj H
      have hnb15 := NB143_142.out
      have hnc15 := NB142_143.out
      have hcz16_0 : wc.cell? ⟨gb143, 0, none⟩ = some (.int .i64 a1_0) := (kce BK143.out 0).trans rfl
      have hcz16_1 : wc.cell? ⟨gb143, 1, none⟩ = some (.int .i64 a1_1) := (kce BK143.out 1).trans rfl
      have hcz16_2 : wc.cell? ⟨gb143, 2, none⟩ = some (.string a1_2) := (kce BK143.out 2).trans rfl
      have hfz16_0 := kfr BK143.out 0
      have hfz16_1 := kfr BK143.out 1
      have hfz16_2 := kfr BK143.out 2
      go_wp2
      go_ret
      exact ⟨by first | rfl | (simp [errW_none, errW_some] <;> rfl) | (simp [*, errW_none, errW_some] <;> rfl), by repeat (first | (with_reducible first | exact HB.out | apply bal | apply pdn | apply bd1 | refine bst ?_ GE142.out | refine bst ?_ GE143.out) | exact HB.out)⟩
     ·rw [if_neg c14] at H
      have c14b0 : (a1_1 == 0) = false := beq_eq_false_iff_ne.mpr c14
      have c14b1 : (a1_1 != 0) = true := bne_iff_ne.mpr c14
      obtain rfl := Option.some.inj H
      have hnb17 := NB143_142.out
      have hnc17 := NB142_143.out
      have hcz18_0 : wc.cell? ⟨gb143, 0, none⟩ = some (.int .i64 a1_0) := (kce BK143.out 0).trans rfl
      have hcz18_1 : wc.cell? ⟨gb143, 1, none⟩ = some (.int .i64 a1_1) := (kce BK143.out 1).trans rfl
      have hcz18_2 : wc.cell? ⟨gb143, 2, none⟩ = some (.string a1_2) := (kce BK143.out 2).trans rfl
      have hfz18_0 := kfr BK143.out 0
      have hfz18_1 := kfr BK143.out 1
      have hfz18_2 := kfr BK143.out 2
      go_wp2
      go_ret
      exact ⟨by first | rfl | (simp [errW_none, errW_some] <;> rfl) | (simp [*, errW_none, errW_some] <;> rfl), by repeat (first | (with_reducible first | exact HB.out | apply bal | apply pdn | apply bd1 | refine bst ?_ GE142.out | refine bst ?_ GE143.out) | exact HB.out)⟩
    ·replace c13 := Bool.eq_false_iff.mpr c13
     subst c13
     have H1 : (if a1_0 = 2 then (if a1_1 = 0 then (some (decide ((a1_2.size : Int) ≤ 64))) else (some false)) else (if a1_0 = 3 then (if a0_0 = 1 then ((impl_between.f a1_1 0 64).bind fun t145 => (if t145 = true then (some (decide ((a1_2.size : Int) ≤ 64))) else (some false))) else (some false)) else (if a1_0 = 4 then (if a0_0 = 1 then (if a1_1 = 0 then (some (decide ((a1_2.size : Int) ≤ 64))) else (some false)) else (some false)) else (if a1_0 = 5 then (if a0_0 = 1 then ((impl_between.f a1_1 0 64).bind fun t146 => (if t146 = true then (some (a1_2.toList == ([] : List UInt8))) else (some false))) else (some false)) else (some false))))) = some r := by rw [if_neg (show ¬ (false = true) by decide)] at H; exact H
     clear H
     have H := H1
     clear H1
     by_cases c19 : a1_0 = 2
     ·rw [if_pos c19] at H
      have c19b0 : (a1_0 == 2) = true := beq_iff_eq.mpr c19
      have c19b1 : (a1_0 != 2) = false := bne_eq_false_iff_eq.mpr c19
      clear c19
      by_cases c20 : a1_1 = 0
      ·rw [if_pos c20] at H
       have c20b0 : (a1_1 == 0) = true := beq_iff_eq.mpr c20
       have c20b1 : (a1_1 != 0) = false := bne_eq_false_iff_eq.mpr c20
       clear c20
       obtain rfl := Option.some.inj H
       have hnb21 := NB143_142.out
       have hnc21 := NB142_143.out
       have hcz22_0 : wc.cell? ⟨gb143, 0, none⟩ = some (.int .i64 a1_0) := (kce BK143.out 0).trans rfl
       have hcz22_1 : wc.cell? ⟨gb143, 1, none⟩ = some (.int .i64 a1_1) := (kce BK143.out 1).trans rfl
       have hcz22_2 : wc.cell? ⟨gb143, 2, none⟩ = some (.string a1_2) := (kce BK143.out 2).trans rfl
       have hfz22_0 := kfr BK143.out 0
       have hfz22_1 := kfr BK143.out 1
       have hfz22_2 := kfr BK143.out 2
       go_wp2
       go_ret
       exact ⟨by first | rfl | (simp [errW_none, errW_some] <;> rfl) | (simp [*, errW_none, errW_some] <;> rfl), by repeat (first | (with_reducible first | exact HB.out | apply bal | apply pdn | apply bd1 | refine bst ?_ GE142.out | refine bst ?_ GE143.out) | exact HB.out)⟩
      ·rw [if_neg c20] at H
       have c20b0 : (a1_1 == 0) = false := beq_eq_false_iff_ne.mpr c20
       have c20b1 : (a1_1 != 0) = true := bne_iff_ne.mpr c20
       obtain rfl := Option.some.inj H
       have hnb23 := NB143_142.out
       have hnc23 := NB142_143.out
       have hcz24_0 : wc.cell? ⟨gb143, 0, none⟩ = some (.int .i64 a1_0) := (kce BK143.out 0).trans rfl
       have hcz24_1 : wc.cell? ⟨gb143, 1, none⟩ = some (.int .i64 a1_1) := (kce BK143.out 1).trans rfl
       have hcz24_2 : wc.cell? ⟨gb143, 2, none⟩ = some (.string a1_2) := (kce BK143.out 2).trans rfl
       have hfz24_0 := kfr BK143.out 0
       have hfz24_1 := kfr BK143.out 1
       have hfz24_2 := kfr BK143.out 2
       go_wp2
       go_ret
       exact ⟨by first | rfl | (simp [errW_none, errW_some] <;> rfl) | (simp [*, errW_none, errW_some] <;> rfl), by repeat (first | (with_reducible first | exact HB.out | apply bal | apply pdn | apply bd1 | refine bst ?_ GE142.out | refine bst ?_ GE143.out) | exact HB.out)⟩
     ·rw [if_neg c19] at H
      have c19b0 : (a1_0 == 2) = false := beq_eq_false_iff_ne.mpr c19
      have c19b1 : (a1_0 != 2) = true := bne_iff_ne.mpr c19
      by_cases c25 : a1_0 = 3
      ·rw [if_pos c25] at H
       have c25b0 : (a1_0 == 3) = true := beq_iff_eq.mpr c25
       have c25b1 : (a1_0 != 3) = false := bne_eq_false_iff_eq.mpr c25
       clear c25
       by_cases c26 : a0_0 = 1
       ·rw [if_pos c26] at H
        have c26b0 : (a0_0 == 1) = true := beq_iff_eq.mpr c26
        have c26b1 : (a0_0 != 1) = false := bne_eq_false_iff_eq.mpr c26
        clear c26
        replace H := Option.bind_eq_some_iff.mp H
        obtain ⟨t145, A270, H⟩ := H
        replace H : (if t145 = true then (some (decide ((a1_2.size : Int) ≤ 64))) else (some false)) = some r := H
        have A27 := am A270
        clear A270
        by_cases c28 : t145 = true
        ·subst c28
         have H1 : (some (decide ((a1_2.size : Int) ≤ 64))) = some r := by rw [if_pos rfl] at H; exact H
         clear H
         have H := H1
         clear H1
         obtain rfl := Option.some.inj H
         have hnb29 := NB142_143.out
         have hnc29 := NB143_142.out
         have hcz30_0 : wc.cell? ⟨gb142, 0, none⟩ = some (.int .i64 a0_0) := (kce BK142.out 0).trans rfl
         have hcz30_1 : wc.cell? ⟨gb142, 1, none⟩ = some (.int .i64 a0_1) := (kce BK142.out 1).trans rfl
         have hfz30_0 := kfr BK142.out 0
         have hfz30_1 := kfr BK142.out 1
         have hcz31_0 : wc.cell? ⟨gb143, 0, none⟩ = some (.int .i64 a1_0) := (kce BK143.out 0).trans rfl
         have hcz31_1 : wc.cell? ⟨gb143, 1, none⟩ = some (.int .i64 a1_1) := (kce BK143.out 1).trans rfl
         have hcz31_2 : wc.cell? ⟨gb143, 2, none⟩ = some (.string a1_2) := (kce BK143.out 2).trans rfl
         have hfz31_0 := kfr BK143.out 0
         have hfz31_1 := kfr BK143.out 1
         have hfz31_2 := kfr BK143.out 2
         go_wp2_with (first | (go_at_call 60; (with_reducible refine (impl_between.calls a1_1 0 64 true _ A27.out).mono ?_); rintro e w' ⟨rfl, ⟨nd, rfl⟩⟩))
         go_ret
         exact ⟨by first | rfl | (simp [errW_none, errW_some] <;> rfl) | (simp [*, errW_none, errW_some] <;> rfl), by repeat (first | (with_reducible first | exact HB.out | apply bal | apply pdn | apply bd1 | refine bst ?_ GE142.out | refine bst ?_ GE143.out) | exact HB.out)⟩
        ·replace c28 := Bool.eq_false_iff.mpr c28
         subst c28
         have H1 : (some false) = some r := by rw [if_neg (show ¬ (false = true) by decide)] at H; exact H
         clear H
         have H := H1
         clear H1
         obtain rfl := Option.some.inj H
         have hnb32 := NB142_143.out
         have hnc32 := NB143_142.out
         have hcz33_0 : wc.cell? ⟨gb142, 0, none⟩ = some (.int .i64 a0_0) := (kce BK142.out 0).trans rfl
         have hcz33_1 : wc.cell? ⟨gb142, 1, none⟩ = some (.int .i64 a0_1) := (kce BK142.out 1).trans rfl
         have hfz33_0 := kfr BK142.out 0
         have hfz33_1 := kfr BK142.out 1
         have hcz34_0 : wc.cell? ⟨gb143, 0, none⟩ = some (.int .i64 a1_0) := (kce BK143.out 0).trans rfl
         have hcz34_1 : wc.cell? ⟨gb143, 1, none⟩ = some (.int .i64 a1_1) := (kce BK143.out 1).trans rfl
         have hcz34_2 : wc.cell? ⟨gb143, 2, none⟩ = some (.string a1_2) := (kce BK143.out 2).trans rfl
         have hfz34_0 := kfr BK143.out 0
         have hfz34_1 := kfr BK143.out 1
         have hfz34_2 := kfr BK143.out 2
         go_wp2_with (first | (go_at_call 60; (with_reducible refine (impl_between.calls a1_1 0 64 false _ A27.out).mono ?_); rintro e w' ⟨rfl, ⟨nd, rfl⟩⟩))
         go_ret
         exact ⟨by first | rfl | (simp [errW_none, errW_some] <;> rfl) | (simp [*, errW_none, errW_some] <;> rfl), by repeat (first | (with_reducible first | exact HB.out | apply bal | apply pdn | apply bd1 | refine bst ?_ GE142.out | refine bst ?_ GE143.out) | exact HB.out)⟩
       ·rw [if_neg c26] at H
        have c26b0 : (a0_0 == 1) = false := beq_eq_false_iff_ne.mpr c26
        have c26b1 : (a0_0 != 1) = true := bne_iff_ne.mpr c26
        obtain rfl := Option.some.inj H
        have hnb35 := NB142_143.out
        have hnc35 := NB143_142.out
        have hcz36_0 : wc.cell? ⟨gb142, 0, none⟩ = some (.int .i64 a0_0) := (kce BK142.out 0).trans rfl
        have hcz36_1 : wc.cell? ⟨gb142, 1, none⟩ = some (.int .i64 a0_1) := (kce BK142.out 1).trans rfl
        have hfz36_0 := kfr BK142.out 0
        have hfz36_1 := kfr BK142.out 1
        go_wp2
        go_ret
        exact ⟨by first | rfl | (simp [errW_none, errW_some] <;> rfl) | (simp [*, errW_none, errW_some] <;> rfl), by repeat (first | (with_reducible first | exact HB.out | apply bal | apply pdn | apply bd1 | refine bst ?_ GE142.out | refine bst ?_ GE143.out) | exact HB.out)⟩
      ·rw [if_neg c25] at H
       have c25b0 : (a1_0 == 3) = false := beq_eq_false_iff_ne.mpr c25
       have c25b1 : (a1_0 != 3) = true := bne_iff_ne.mpr c25
       by_cases c37 : a1_0 = 4
       ·rw [if_pos c37] at H
        have c37b0 : (a1_0 == 4) = true := beq_iff_eq.mpr c37
        have c37b1 : (a1_0 != 4) = false := bne_eq_false_iff_eq.mpr c37
        clear c37
        by_cases c38 : a0_0 = 1
        ·rw [if_pos c38] at H
         have c38b0 : (a0_0 == 1) = true := beq_iff_eq.mpr c38
         have c38b1 : (a0_0 != 1) = false := bne_eq_false_iff_eq.mpr c38
         clear c38
         by_cases c39 : a1_1 = 0
         ·rw [if_pos c39] at H
          have c39b0 : (a1_1 == 0) = true := beq_iff_eq.mpr c39
          have c39b1 : (a1_1 != 0) = false := bne_eq_false_iff_eq.mpr c39
          clear c39
          obtain rfl := Option.some.inj H
          have hnb40 := NB142_143.out
          have hnc40 := NB143_142.out
          have hcz41_0 : wc.cell? ⟨gb142, 0, none⟩ = some (.int .i64 a0_0) := (kce BK142.out 0).trans rfl
          have hcz41_1 : wc.cell? ⟨gb142, 1, none⟩ = some (.int .i64 a0_1) := (kce BK142.out 1).trans rfl
          have hfz41_0 := kfr BK142.out 0
          have hfz41_1 := kfr BK142.out 1
          have hcz42_0 : wc.cell? ⟨gb143, 0, none⟩ = some (.int .i64 a1_0) := (kce BK143.out 0).trans rfl
          have hcz42_1 : wc.cell? ⟨gb143, 1, none⟩ = some (.int .i64 a1_1) := (kce BK143.out 1).trans rfl
          have hcz42_2 : wc.cell? ⟨gb143, 2, none⟩ = some (.string a1_2) := (kce BK143.out 2).trans rfl
          have hfz42_0 := kfr BK143.out 0
          have hfz42_1 := kfr BK143.out 1
          have hfz42_2 := kfr BK143.out 2
          go_wp2
          go_ret
          exact ⟨by first | rfl | (simp [errW_none, errW_some] <;> rfl) | (simp [*, errW_none, errW_some] <;> rfl), by repeat (first | (with_reducible first | exact HB.out | apply bal | apply pdn | apply bd1 | refine bst ?_ GE142.out | refine bst ?_ GE143.out) | exact HB.out)⟩
         ·rw [if_neg c39] at H
          have c39b0 : (a1_1 == 0) = false := beq_eq_false_iff_ne.mpr c39
          have c39b1 : (a1_1 != 0) = true := bne_iff_ne.mpr c39
          obtain rfl := Option.some.inj H
          have hnb43 := NB142_143.out
          have hnc43 := NB143_142.out
          have hcz44_0 : wc.cell? ⟨gb142, 0, none⟩ = some (.int .i64 a0_0) := (kce BK142.out 0).trans rfl
          have hcz44_1 : wc.cell? ⟨gb142, 1, none⟩ = some (.int .i64 a0_1) := (kce BK142.out 1).trans rfl
          have hfz44_0 := kfr BK142.out 0
          have hfz44_1 := kfr BK142.out 1
          have hcz45_0 : wc.cell? ⟨gb143, 0, none⟩ = some (.int .i64 a1_0) := (kce BK143.out 0).trans rfl
          have hcz45_1 : wc.cell? ⟨gb143, 1, none⟩ = some (.int .i64 a1_1) := (kce BK143.out 1).trans rfl
          have hcz45_2 : wc.cell? ⟨gb143, 2, none⟩ = some (.string a1_2) := (kce BK143.out 2).trans rfl
          have hfz45_0 := kfr BK143.out 0
          have hfz45_1 := kfr BK143.out 1
          have hfz45_2 := kfr BK143.out 2
          go_wp2
          go_ret
          exact ⟨by first | rfl | (simp [errW_none, errW_some] <;> rfl) | (simp [*, errW_none, errW_some] <;> rfl), by repeat (first | (with_reducible first | exact HB.out | apply bal | apply pdn | apply bd1 | refine bst ?_ GE142.out | refine bst ?_ GE143.out) | exact HB.out)⟩
        ·rw [if_neg c38] at H
         have c38b0 : (a0_0 == 1) = false := beq_eq_false_iff_ne.mpr c38
         have c38b1 : (a0_0 != 1) = true := bne_iff_ne.mpr c38
         obtain rfl := Option.some.inj H
         have hnb46 := NB142_143.out
         have hnc46 := NB143_142.out
         have hcz47_0 : wc.cell? ⟨gb142, 0, none⟩ = some (.int .i64 a0_0) := (kce BK142.out 0).trans rfl
         have hcz47_1 : wc.cell? ⟨gb142, 1, none⟩ = some (.int .i64 a0_1) := (kce BK142.out 1).trans rfl
         have hfz47_0 := kfr BK142.out 0
         have hfz47_1 := kfr BK142.out 1
         go_wp2
         go_ret
         exact ⟨by first | rfl | (simp [errW_none, errW_some] <;> rfl) | (simp [*, errW_none, errW_some] <;> rfl), by repeat (first | (with_reducible first | exact HB.out | apply bal | apply pdn | apply bd1 | refine bst ?_ GE142.out | refine bst ?_ GE143.out) | exact HB.out)⟩
       ·rw [if_neg c37] at H
        have c37b0 : (a1_0 == 4) = false := beq_eq_false_iff_ne.mpr c37
        have c37b1 : (a1_0 != 4) = true := bne_iff_ne.mpr c37
        by_cases c48 : a1_0 = 5
        ·rw [if_pos c48] at H
         have c48b0 : (a1_0 == 5) = true := beq_iff_eq.mpr c48
         have c48b1 : (a1_0 != 5) = false := bne_eq_false_iff_eq.mpr c48
         clear c48
         by_cases c49 : a0_0 = 1
         ·rw [if_pos c49] at H
          have c49b0 : (a0_0 == 1) = true := beq_iff_eq.mpr c49
          have c49b1 : (a0_0 != 1) = false := bne_eq_false_iff_eq.mpr c49
          clear c49
          replace H := Option.bind_eq_some_iff.mp H
          obtain ⟨t146, A500, H⟩ := H
          replace H : (if t146 = true then (some (a1_2.toList == ([] : List UInt8))) else (some false)) = some r := H
          have A50 := am A500
          clear A500
          by_cases c51 : t146 = true
          ·subst c51
           have H1 : (some (a1_2.toList == ([] : List UInt8))) = some r := by rw [if_pos rfl] at H; exact H
           clear H
           have H := H1
           clear H1
           obtain rfl := Option.some.inj H
           have hnb52 := NB142_143.out
           have hnc52 := NB143_142.out
           have hcz53_0 : wc.cell? ⟨gb142, 0, none⟩ = some (.int .i64 a0_0) := (kce BK142.out 0).trans rfl
           have hcz53_1 : wc.cell? ⟨gb142, 1, none⟩ = some (.int .i64 a0_1) := (kce BK142.out 1).trans rfl
           have hfz53_0 := kfr BK142.out 0
           have hfz53_1 := kfr BK142.out 1
           have hcz54_0 : wc.cell? ⟨gb143, 0, none⟩ = some (.int .i64 a1_0) := (kce BK143.out 0).trans rfl
           have hcz54_1 : wc.cell? ⟨gb143, 1, none⟩ = some (.int .i64 a1_1) := (kce BK143.out 1).trans rfl
           have hcz54_2 : wc.cell? ⟨gb143, 2, none⟩ = some (.string a1_2) := (kce BK143.out 2).trans rfl
           have hfz54_0 := kfr BK143.out 0
           have hfz54_1 := kfr BK143.out 1
           have hfz54_2 := kfr BK143.out 2
           go_wp2_with (first | (go_at_call 60; (with_reducible refine (impl_between.calls a1_1 0 64 true _ A50.out).mono ?_); rintro e w' ⟨rfl, ⟨nd, rfl⟩⟩))
           go_ret
           exact ⟨by first | rfl | (simp [errW_none, errW_some] <;> rfl) | (simp [*, errW_none, errW_some] <;> rfl), by repeat (first | (with_reducible first | exact HB.out | apply bal | apply pdn | apply bd1 | refine bst ?_ GE142.out | refine bst ?_ GE143.out) | exact HB.out)⟩
          ·replace c51 := Bool.eq_false_iff.mpr c51
           subst c51
           have H1 : (some false) = some r := by rw [if_neg (show ¬ (false = true) by decide)] at H; exact H
           clear H
           have H := H1
           clear H1
           obtain rfl := Option.some.inj H
           have hnb55 := NB142_143.out
           have hnc55 := NB143_142.out
           have hcz56_0 : wc.cell? ⟨gb142, 0, none⟩ = some (.int .i64 a0_0) := (kce BK142.out 0).trans rfl
           have hcz56_1 : wc.cell? ⟨gb142, 1, none⟩ = some (.int .i64 a0_1) := (kce BK142.out 1).trans rfl
           have hfz56_0 := kfr BK142.out 0
           have hfz56_1 := kfr BK142.out 1
           have hcz57_0 : wc.cell? ⟨gb143, 0, none⟩ = some (.int .i64 a1_0) := (kce BK143.out 0).trans rfl
           have hcz57_1 : wc.cell? ⟨gb143, 1, none⟩ = some (.int .i64 a1_1) := (kce BK143.out 1).trans rfl
           have hcz57_2 : wc.cell? ⟨gb143, 2, none⟩ = some (.string a1_2) := (kce BK143.out 2).trans rfl
           have hfz57_0 := kfr BK143.out 0
           have hfz57_1 := kfr BK143.out 1
           have hfz57_2 := kfr BK143.out 2
           go_wp2_with (first | (go_at_call 60; (with_reducible refine (impl_between.calls a1_1 0 64 false _ A50.out).mono ?_); rintro e w' ⟨rfl, ⟨nd, rfl⟩⟩))
           go_ret
           exact ⟨by first | rfl | (simp [errW_none, errW_some] <;> rfl) | (simp [*, errW_none, errW_some] <;> rfl), by repeat (first | (with_reducible first | exact HB.out | apply bal | apply pdn | apply bd1 | refine bst ?_ GE142.out | refine bst ?_ GE143.out) | exact HB.out)⟩
         ·rw [if_neg c49] at H
          have c49b0 : (a0_0 == 1) = false := beq_eq_false_iff_ne.mpr c49
          have c49b1 : (a0_0 != 1) = true := bne_iff_ne.mpr c49
          obtain rfl := Option.some.inj H
          have hnb58 := NB142_143.out
          have hnc58 := NB143_142.out
          have hcz59_0 : wc.cell? ⟨gb142, 0, none⟩ = some (.int .i64 a0_0) := (kce BK142.out 0).trans rfl
          have hcz59_1 : wc.cell? ⟨gb142, 1, none⟩ = some (.int .i64 a0_1) := (kce BK142.out 1).trans rfl
          have hfz59_0 := kfr BK142.out 0
          have hfz59_1 := kfr BK142.out 1
          go_wp2
          go_ret
          exact ⟨by first | rfl | (simp [errW_none, errW_some] <;> rfl) | (simp [*, errW_none, errW_some] <;> rfl), by repeat (first | (with_reducible first | exact HB.out | apply bal | apply pdn | apply bd1 | refine bst ?_ GE142.out | refine bst ?_ GE143.out) | exact HB.out)⟩
        ·rw [if_neg c48] at H
         have c48b0 : (a1_0 == 5) = false := beq_eq_false_iff_ne.mpr c48
         have c48b1 : (a1_0 != 5) = true := bne_iff_ne.mpr c48
         obtain rfl := Option.some.inj H
         go_wp2
         go_ret
         exact ⟨by first | rfl | (simp [errW_none, errW_some] <;> rfl) | (simp [*, errW_none, errW_some] <;> rfl), by repeat (first | (with_reducible first | exact HB.out | apply bal | apply pdn | apply bd1 | refine bst ?_ GE142.out | refine bst ?_ GE143.out) | exact HB.out)⟩
 ·replace c4 := Bool.eq_false_iff.mpr c4
  subst c4
  have H1 : (some false) = some r := by rw [if_neg (show ¬ (false = true) by decide)] at H; exact H
  clear H
  have H := H1
  clear H1
  obtain rfl := Option.some.inj H
  go_enter Try.func86, Try.ntmps86
  go_wp2_with (first | ((with_reducible refine gate_dst (N := 2) rfl ?_); (try (refine gate_guard (by rfl) ?_; dsimp only)); refine box_event ?hg (N := 2) ?hd (cs := #[.int .i64 a0_0, .int .i64 a0_1]) (t := 84) ?hr ?_; (case hd => rfl); (case hg => rfl); (case hr => first | (go_simp; done) | (go_simp; rfl)); intro gb142 hg w60 hbox hb; have n0_ := am (below_step (by repeat (first | (with_reducible first | exact HB.out | apply bal | apply pdn | apply bd1) | exact HB.out)) hb); have n1_ := am (hbox); have n2_ := am ((by rw [hg]; exact (below_size (by repeat (first | (with_reducible first | exact HB.out | apply bal | apply pdn | apply bd1) | exact HB.out))) : w.heap.size ≤ gb142)); have n3_ := am ((by rw [hg]; exact (below_size (by repeat (first | (with_reducible first | exact HB.out | apply bal | apply pdn | apply bd1) | exact HB.out))) : w.heap.size ≤ gb142)); clear HB; have HB := n0_; have BK142 := n1_; have GW142 := n2_; have GE142 := n3_; clear n0_ n1_ n2_ n3_; clear hb hbox hg) | ((with_reducible refine gate_dst (N := 3) rfl ?_); (try (refine gate_guard (by rfl) ?_; dsimp only)); refine box_event ?hg (N := 3) ?hd (cs := #[.int .i64 a1_0, .int .i64 a1_1, .string a1_2]) (t := 60) ?hr ?_; (case hd => rfl); (case hg => rfl); (case hr => first | (go_simp; done) | (go_simp; rfl)); intro gb143 hg w61 hbox hb; have n0_ := am (kbb (g := gb142) (o := .cells #[.int .i64 a0_0, .int .i64 a0_1] 84 (0, 0)) (by (with_reducible repeat (first | apply kdn | apply kdr | apply kal)); exact BK142.out) hb); have n1_ := am (below_step (by repeat (first | (with_reducible first | exact HB.out | apply bal | apply pdn | apply bd1 | refine bst ?_ GE142.out) | exact HB.out)) hb); have n2_ := am (hbox); have n3_ := am ((by rw [hg]; exact (below_size (by repeat (first | (with_reducible first | exact HB.out | apply bal | apply pdn | apply bd1 | refine bst ?_ GE142.out) | exact HB.out))) : w.heap.size ≤ gb143)); have n4_ := am ((by rw [hg]; exact (below_size (by repeat (first | (with_reducible first | exact HB.out | apply bal | apply pdn | apply bd1 | refine bst ?_ GE142.out) | exact HB.out))) : w.heap.size ≤ gb143)); have n5_ := am ((by rw [hg]; exact Nat.ne_of_lt (blk_lt (g := gb142) (o := .cells #[.int .i64 a0_0, .int .i64 a0_1] 84 (0, 0)) (by (with_reducible repeat (first | apply kdn | apply kdr | apply kal)); exact BK142.out)) : gb142 ≠ gb143)); have n6_ := am ((by rw [hg]; exact Nat.ne_of_gt (blk_lt (g := gb142) (o := .cells #[.int .i64 a0_0, .int .i64 a0_1] 84 (0, 0)) (by (with_reducible repeat (first | apply kdn | apply kdr | apply kal)); exact BK142.out)) : gb143 ≠ gb142)); clear BK142; clear HB; have BK142 := n0_; have HB := n1_; have BK143 := n2_; have GW143 := n3_; have GE143 := n4_; have NB142_143 := n5_; have NB143_142 := n6_; clear n0_ n1_ n2_ n3_ n4_ n5_ n6_; clear hb hbox hg; have hnb62 := NB142_143.out; have hnc62 := NB143_142.out; have hcz63_0 : w61.cell? ⟨gb142, 0, none⟩ = some (.int .i64 a0_0) := (kce BK142.out 0).trans rfl; have hcz63_1 : w61.cell? ⟨gb142, 1, none⟩ = some (.int .i64 a0_1) := (kce BK142.out 1).trans rfl; have hfz63_0 := kfr BK142.out 0; have hfz63_1 := kfr BK142.out 1) | ((with_reducible refine gate_callee (f := 117) rfl ?_); refine goesL_ (some 6) rfl rfl Try.func117 (by kernel_rfl) rfl #[.agg #[.int .i64 a0_0, .int .i64 a0_1]] rfl (by (try simp only [mta, mco, mni]); first | done | rfl | (simp only [lnd, lnt]; rfl)) ?_; (with_reducible refine (impl_CodeOk.calls a0_0 a0_1 false _ A3.out).mono ?_); rintro e w64 ⟨rfl, hb⟩; refine ⟨_, rfl, ?_⟩; have n0_ := am (kbb (g := gb142) (o := .cells #[.int .i64 a0_0, .int .i64 a0_1] 84 (0, 0)) (by (with_reducible repeat (first | apply kdn | apply kdr | apply kal)); exact BK142.out) hb); have n1_ := am (kbb (g := gb143) (o := .cells #[.int .i64 a1_0, .int .i64 a1_1, .string a1_2] 60 (0, 0)) (by (with_reducible repeat (first | apply kdn | apply kdr | apply kal)); exact BK143.out) hb); have n2_ := am (below_step (by repeat (first | (with_reducible first | exact HB.out | apply bal | apply pdn | apply bd1 | refine bst ?_ GE142.out | refine bst ?_ GE143.out) | exact HB.out)) hb); clear BK142; clear BK143; clear HB; have BK142 := n0_; have BK143 := n1_; have HB := n2_; clear n0_ n1_ n2_; (try clear hb); (try clear hb2); (try clear hk); (try clear hi)))
  go_ret
  exact ⟨by first | rfl | (simp [errW_none, errW_some] <;> rfl) | (simp [*, errW_none, errW_some] <;> rfl), by repeat (first | (with_reducible first | exact HB.out | apply bal | apply pdn | apply bd1 | refine bst ?_ GE142.out | refine bst ?_ GE143.out) | exact HB.out)⟩

/-! ### impl_plainCode: function 87 -/
def impl_plainCode.f  : Option (Int × Int) := some (1, 0)
set_option maxHeartbeats 8000000 in
set_option maxRecDepth 100000 in
theorem impl_plainCode.calls  (r1 : Int) (r2 : Int) (w : World) (h : impl_plainCode.f  = some (r1, r2)) :
  Calls Try.prog 87 #[] w fun e w' => e = .returned (.agg #[.int .i64 r1, .int .i64 r2]) ∧ Below w.heap.size w w' := by
 have hu84 := Try.underlying84
 have HB := am (Below.refl w.heap.size w)
 have H : (some (1, 0)) = some (r1, r2) := h
 clear h
 simp only [Option.some.injEq, Prod.mk.injEq] at H
 obtain ⟨rfl, rfl⟩ := H
 go_enter Try.func87, Try.ntmps87
 go_wp2_with (first | ((with_reducible refine gate_dst (N := 0) rfl ?_); refine box_event ?hg (N := 0) ?hd (cs := #[.int .i64 0, .int .i64 0]) (t := 84) ?hr ?_; (case hd => rfl); (case hg => rfl); (case hr => first | (go_simp; done) | (go_simp; rfl)); intro gb147 hg w1 hbox hb; have n0_ := am (below_step (by repeat (first | (with_reducible first | exact HB.out | apply bal | apply pdn | apply bd1) | exact HB.out)) hb); have n1_ := am (hbox); have n2_ := am ((by rw [hg]; exact (below_size (by repeat (first | (with_reducible first | exact HB.out | apply bal | apply pdn | apply bd1) | exact HB.out))) : w.heap.size ≤ gb147)); have n3_ := am ((by rw [hg]; exact (below_size (by repeat (first | (with_reducible first | exact HB.out | apply bal | apply pdn | apply bd1) | exact HB.out))) : w.heap.size ≤ gb147)); clear HB; have HB := n0_; have BK147 := n1_; have GW147 := n2_; have GE147 := n3_; clear n0_ n1_ n2_ n3_; clear hb hbox hg; have hcz2_0 : w1.cell? ⟨gb147, 0, none⟩ = some (.int .i64 0) := (kce BK147.out 0).trans rfl; have hcz2_1 : w1.cell? ⟨gb147, 1, none⟩ = some (.int .i64 0) := (kce BK147.out 1).trans rfl; have hfz2_0 := kfr BK147.out 0; have hfz2_1 := kfr BK147.out 1))
 refine bodyPost_ret (results_cell_row rfl _ _ gb147 84 #[.int .i64 1, .int .i64 0] (0, 0) _ rfl (by (with_reducible repeat (first | apply kdn | apply kdr | apply kal)); refine blk_put (cs := #[.int .i64 1, .int .i64 0]) ?_ 1 _ rfl; (with_reducible repeat (first | apply kdn | apply kdr | apply kal)); refine blk_put (cs := #[.int .i64 0, .int .i64 0]) ?_ 0 _ rfl; (with_reducible repeat (first | apply kdn | apply kdr | apply kal)); exact BK147.out) Try.underlying84 rfl (by kernel_rfl)) rfl ?_
 exact ⟨by first | rfl | (simp [errW_none, errW_some] <;> rfl) | (simp [*, errW_none, errW_some] <;> rfl), by repeat (first | (with_reducible first | exact HB.out | apply bal | apply pdn | apply bd1 | refine bst ?_ GE147.out) | exact HB.out)⟩

/-! ### strings_Repeat: function 128 -/
open Go.Shelf Go.Lib in
shelf_lay Lays.n105 Nm 105 at Try as strings_Repeat_lays
open Go.Shelf Go.Lib in
theorem strings_Repeat.extra : Builder.Extra Try.prog strings_Repeat_lays_ren where
 sizeBuilder := by kernel_rfl
 liesBuilder := by kernel_rfl
 t5 := strings_Repeat_lays.t5
 a5 := strings_Repeat_lays.a5
 z5 := strings_Repeat_lays.z5
 v5 := strings_Repeat_lays.v5
 infoByte := by kernel_rfl
 cellsByte := by kernel_rfl
 sizeByte := by kernel_rfl
 neB5 := by decide
theorem strings_Repeat.num : strings_Repeat_lays_ren.f 105 = 128 := by kernel_rfl
def strings_Repeat.f (a0 : ByteArray) (a1 : Int) : Option (ByteArray) := if 0 ≤ a1 ∧ a0.size * a1.toNat ≤ 1000000 ∧ a1 ≤ 1000000 then some ⟨(Go.Lib.repeatL a0.data.toList a1.toNat).toArray⟩ else none
theorem strings_Repeat.calls (a0 : ByteArray) (a1 : Int) (r : ByteArray) (w : World) (h : strings_Repeat.f a0 a1 = some r) :
  Calls Try.prog 128 #[.string a0, .int .i64 a1] w fun e w' => e = .returned (.string r) ∧ Below w.heap.size w w' := by
 unfold strings_Repeat.f at h
 split at h
 ·rename_i hc
  obtain rfl := Option.some.inj h
  have h1 := Go.Proofs.Any.strings_Repeat strings_Repeat_lays strings_Repeat.extra a0 a1.toNat w (by omega) (by omega)
  rw [strings_Repeat.num, Int.toNat_of_nonneg hc.1] at h1
  exact h1
 ·cases h

/-! ### impl_overwritten: function 122 -/
def impl_overwritten.f (body : ByteArray) (a : Int) (bytes : ByteArray) : Option (ByteArray) :=
 if 0 ≤ a ∧ a ≤ 64 ∧ body.size ≤ 64 ∧ bytes.size ≤ 64 then some ⟨(spec_l16Lay.lay (spec_l16Lay.pad body.data.toList a.toNat) bytes.data.toList a.toNat (min bytes.size (64 - a.toNat))).toArray⟩ else none
theorem impl_overwritten.ext {r : ByteArray} {L : List UInt8} (h : r.data.toList = L) : r = ⟨L.toArray⟩ := by
 apply ByteArray.ext
 show r.data = L.toArray
 rw [← h, Array.toArray_toList]
theorem impl_overwritten.app (a b : ByteArray) : (a ++ b).data.toList = a.data.toList ++ b.data.toList := by simp
theorem impl_overwritten.ex (a : ByteArray) (i j : Nat) : (a.extract i j).data.toList = (a.data.toList.drop i).take (j - i) := by simp
theorem impl_overwritten.len (a : ByteArray) : a.data.toList.length = a.size := by simp
theorem impl_overwritten.rep (n : Nat) : Go.Lib.repeatL ([0] : List UInt8) n = List.replicate n 0 := by
 have := Go.Lib.repeatL_replicate (0 : UInt8) 1 n
 simpa using this
theorem impl_overwritten.short (P X R : ByteArray) (a : Nat) (hP : P.size ≤ 64) (ha : a ≤ P.size) (h : a + X.size < P.size) (hR : R.data.toList = P.data.toList.take a ++ X.data.toList ++ P.data.toList.drop (a + X.size)) (hs : R.size = P.size) :
  R.extract 0 P.size = ⟨(spec_l16Lay.lay P.data.toList X.data.toList a (min X.size (64 - a))).toArray⟩ := by
 have hlP := impl_overwritten.len P
 have hlX := impl_overwritten.len X
 apply impl_overwritten.ext
 rw [impl_overwritten.ex, hR, show min X.size (64 - a) = X.size from by omega]
 unfold spec_l16Lay.lay
 rw [List.drop_zero, List.take_of_length_le (by simp; omega), List.take_of_length_le (l := X.data.toList) (by omega)]
theorem impl_overwritten.long (P X O : ByteArray) (a : Nat) (hP : P.size ≤ 64) (ha : a ≤ P.size) (h : ¬ a + X.size < P.size) (hO : O.data.toList = P.data.toList.take a ++ X.data.toList) :
  O.extract 0 (min (a + X.size) 64) = ⟨(spec_l16Lay.lay P.data.toList X.data.toList a (min X.size (64 - a))).toArray⟩ := by
 have hlP := impl_overwritten.len P
 have hlX := impl_overwritten.len X
 apply impl_overwritten.ext
 rw [impl_overwritten.ex, hO]
 unfold spec_l16Lay.lay
 rw [List.drop_zero, Nat.sub_zero, List.drop_of_length_le (by omega), List.append_nil, List.take_append, List.take_of_length_le (by simp; omega)]
 congr 1
 rw [lnt, show min (a + X.size) 64 - min a P.data.toList.length = min X.size (64 - a) from by omega]
set_option maxHeartbeats 4000000 in
set_option maxRecDepth 100000 in
theorem impl_overwritten.calls (a0 : ByteArray) (a1 : Int) (a2 : ByteArray) (r : ByteArray) (w : World) (h : impl_overwritten.f a0 a1 a2 = some r) :
  Calls Try.prog 122 #[.string a0, .int .i64 a1, .string a2] w fun e w' => e = .returned (.string r) ∧ Below w.heap.size w w' := by
 unfold impl_overwritten.f at h
 split at h
 case isFalse => cases h
 rename_i hc
 obtain ⟨hc0, hc1, hc2, hc3⟩ := hc
 obtain ⟨a, rfl⟩ := Int.eq_ofNat_of_zero_le hc0
 rw [Int.toNat_natCast] at h
 have HR := am (Option.some.inj h)
 clear h hc0
 have HL0 := am (impl_overwritten.len a0)
 have HWR : Aside0 (wrap64 ((a : Int) - (a0.size : Int)) = (a : Int) - (a0.size : Int)) := ⟨by unfold wrap64; omega⟩
 go_enter Try.func122, Try.ntmps122
 go_upto_if 14 with fail
 go_cut [0] (fun s0 wx => ∃ P : ByteArray, s0 = .string P ∧ Aside0 (P.data.toList = spec_l16Lay.pad a0.data.toList a ∧ P.size ≤ 64 ∧ a ≤ P.size) ∧ Aside0 (Below w.heap.size w wx))
 case first =>
  by_cases hp : (0 : Int) < (a : Int) - (a0.size : Int)
  ·have hpb : decide (a0.size < a) = true := decide_eq_true (by omega)
   obtain ⟨t, ht⟩ : ∃ t : ByteArray, strings_Repeat.f (⟨#[0]⟩ : ByteArray) ((a : Int) - (a0.size : Int)) = some t ∧ t.data.toList = List.replicate (a - a0.size) 0 := by
    unfold strings_Repeat.f
    have e1 : (⟨#[0]⟩ : ByteArray).size = 1 := rfl
    have e2 : (⟨#[0]⟩ : ByteArray).data.toList = [0] := rfl
    rw [if_pos ⟨by omega, by rw [e1]; omega, by omega⟩, e2, impl_overwritten.rep, show ((a : Int) - (a0.size : Int)).toNat = a - a0.size from by omega]
    exact ⟨_, rfl, by simp⟩
   have hts : t.size = a - a0.size := by rw [← impl_overwritten.len, ht.2]; simp
   have HT := am ht
   have hadd : (9223372036854775807 < a0.size + t.size) = False := eq_false (by omega)
   have hadd1 : decide (a0.size + t.size ≤ 9223372036854775807) = true := decide_eq_true (by omega)
   have hadd2 : (a0.size + t.size ≤ 9223372036854775807) = True := eq_true (by omega)
   have HTS := am hts
   clear ht hts
   go_wp2_with (go_at_call 128; refine (strings_Repeat.calls _ _ t _ HT.out.1).mono ?_; rintro e w' ⟨rfl, hb⟩; have HB := am hb; clear hb)
   go_meet
   have hl := HL0.out
   refine ⟨_, rfl, ⟨?_, ?_, ?_⟩, HB⟩
   ·rw [impl_overwritten.app, HT.out.2]
    unfold spec_l16Lay.pad
    rw [hl]
   ·rw [ByteArray.size_append, HTS.out]; omega
   ·rw [ByteArray.size_append, HTS.out]; omega
  ·have hpb : decide (a0.size < a) = false := decide_eq_false (by omega)
   go_wp2
   go_meet
   have hl := HL0.out
   refine ⟨_, rfl, ⟨?_, hc2, by omega⟩, ⟨Below.refl _ _⟩⟩
   unfold spec_l16Lay.pad
   rw [show a - a0.data.toList.length = 0 from by omega, List.replicate_zero, List.append_nil]
 case rest =>
  obtain ⟨P, rfl, HP, HB⟩ := hcut
  have hP := HP.out
  have hq0 : ((0 : Int) ≤ (a : Int)) = True := eq_true (by omega)
  have hq1 : ((a : Int) ≤ (P.size : Int)) = True := eq_true (by omega)
  have hq2 : (a ≤ P.size) = True := eq_true hP.2.2
  have hs0 : (P.extract 0 a).size = a := by rw [ByteArray.size_extract]; omega
  have hadd : (9223372036854775807 < (P.extract 0 a).size + a2.size) = False := eq_false (by omega)
  have hadd2 : ((P.extract 0 a).size + a2.size ≤ 9223372036854775807) = True := eq_true (by omega)
  have hd : ((P.extract 0 a) ++ a2).data.toList = P.data.toList.take a ++ a2.data.toList := by rw [impl_overwritten.app, impl_overwritten.ex]; simp
  have hs : ((P.extract 0 a) ++ a2).size = a + a2.size := by rw [ByteArray.size_append, hs0]
  have HD := am hd
  have HS := am hs
  clear hd hs hP hs0
  go_upto_if 28 with fail
  generalize P.extract 0 a ++ a2 = O at HD HS ⊢
  have hP := HP.out
  by_cases h : a + a2.size < P.size
  ·have hlt : decide ((a : Int) + (a2.size : Int) < (P.size : Int)) = true := decide_eq_true (by omega)
   have hlt1 : (a + a2.size < P.size) = True := eq_true h
   have hlt2 : decide (a + a2.size < P.size) = true := decide_eq_true h
   have hr1 : (O.size ≤ P.size) = True := eq_true (by have := HS.out; omega)
   have hr2 : (9223372036854775807 < P.size) = False := eq_false (by omega)
   have hr3 : (64 < (P.size : Int)) = False := eq_false (by omega)
   have HF : Aside0 ((O ++ P.extract O.size P.size).extract 0 P.size = r) := ⟨by
    rw [impl_overwritten.short P a2 _ a hP.2.1 hP.2.2 h (by rw [impl_overwritten.app, impl_overwritten.ex, HD.out, HS.out, List.take_of_length_le (l := P.data.toList.drop (a + a2.size)) (by simp)]) (by rw [ByteArray.size_append, ByteArray.size_extract]; have := HS.out; omega), hP.1]
    exact HR.out⟩
   clear hP h
   go_wp2
   ·go_ret
    exact ⟨by rw [← HF.out] <;> rfl, HB.out⟩
   all_goals (exfalso; have q := of_decide_eq_true hlt2; omega)
  ·have hlt : decide ((a : Int) + (a2.size : Int) < (P.size : Int)) = false := decide_eq_false (by omega)
   have hlt1 : (a + a2.size < P.size) = False := eq_false h
   have hlt2 : decide (a + a2.size < P.size) = false := decide_eq_false h
   have HF : Aside0 (O.extract 0 (min (a + a2.size) 64) = r) := ⟨by
    rw [impl_overwritten.long P a2 O a hP.2.1 hP.2.2 h HD.out, hP.1]
    exact HR.out⟩
   clear hP
   by_cases h64 : 64 < O.size
   ·have hr3 : (64 < (O.size : Int)) = True := eq_true (by omega)
    have hr4 : (64 ≤ O.size) = True := eq_true (by omega)
    have HF2 : Aside0 (O.extract 0 64 = r) := ⟨by rw [← HF.out]; congr 1; have := HS.out; omega⟩
    go_wp2
    go_ret
    exact ⟨by rw [← HF2.out] <;> rfl, HB.out⟩
   ·have hr3 : (64 < (O.size : Int)) = False := eq_false (by omega)
    have HF2 : Aside0 (O = r) := ⟨by rw [← HF.out, show min (a + a2.size) 64 = O.size from by have := HS.out; omega]; simp⟩
    go_wp2
    go_ret
    exact ⟨by rw [← HF2.out] <;> rfl, HB.out⟩

/-! ### impl_Op_apply: function 96 -/
def impl_Op_apply.j0 : Nat → ByteArray → Bool → Int → Int → ByteArray → Option (ByteArray × Bool)
 | 0, _, _, _, _, _ => none
 | k + 1, x1, x2, x149000, x149001, x149002 => if x149000 = 2 then (some (x149002, true)) else (if x149000 = 3 then ((impl_overwritten.f x1 x149001 x149002).bind fun t149 => (some (t149, true))) else (if x149000 = 4 then ((impl_overwritten.f x1 (x1.size : Int) x149002).bind fun t150 => (some (t150, true))) else (if x149000 = 5 then (if 0 ≤ (mn (x1.size : Int) x149001) then (if (mn (x1.size : Int) x149001) ≤ (x1.size : Int) then (some (x1.extract 0 ((mn (x1.size : Int) x149001) : Int).toNat, x2)) else (none)) else (none)) else (if x149000 = 6 then (some ((⟨#[]⟩ : ByteArray), false)) else (some (x1, x2))))))
def impl_Op_apply.f (k : Nat) (a0_0 : Int) (a0_1 : Int) (a0_2 : ByteArray) (a1 : ByteArray) (a2 : Bool) : Option (ByteArray × Bool) := if a2 = true then (impl_Op_apply.j0 k a1 a2 a0_0 a0_1 a0_2) else (impl_Op_apply.j0 k (⟨#[]⟩ : ByteArray) a2 a0_0 a0_1 a0_2)
theorem impl_Op_apply.mono_l : ∀ k, (∀ y0 y1 y2 y3 y4, LeO (impl_Op_apply.j0 k y0 y1 y2 y3 y4) (impl_Op_apply.j0 (k + 1) y0 y1 y2 y3 y4))
 | 0 => fun _ _ _ _ _ r h => by simp [impl_Op_apply.j0] at h
 | k + 1 => by
  have ih0 := impl_Op_apply.mono_l k
  ·intro y0 y1 y2 y3 y4
   unfold impl_Op_apply.j0
   repeat' first
   | (with_reducible exact ih0 _ _ _ _ _)
   | (with_reducible exact LeO.refl _)
   | (with_reducible exact LeO.none _)
   | (with_reducible refine LeO.ite ?_ ?_)
   | (with_reducible refine LeO.bind ?_ (fun _ => ?_))
   | exact ih0 _ _ _ _ _
   | exact LeO.none _
   | refine LeO.ite ?_ ?_
   | refine LeO.bind ?_ (fun _ => ?_)
theorem impl_Op_apply.mono : ∀ a0 a1 a2 a3 a4 k, LeO (impl_Op_apply.f k a0 a1 a2 a3 a4) (impl_Op_apply.f (k + 1) a0 a1 a2 a3 a4) := by
 intro a0 a1 a2 a3 a4 k
 have ih0 := impl_Op_apply.mono_l k
 unfold impl_Op_apply.f
 repeat' first
   | (with_reducible exact ih0 _ _ _ _ _)
   | (with_reducible exact LeO.refl _)
   | (with_reducible exact LeO.none _)
   | (with_reducible refine LeO.ite ?_ ?_)
   | (with_reducible refine LeO.bind ?_ (fun _ => ?_))
   | exact ih0 _ _ _ _ _
   | exact LeO.none _
   | refine LeO.ite ?_ ?_
   | refine LeO.bind ?_ (fun _ => ?_)
set_option maxHeartbeats 8000000 in
set_option maxRecDepth 100000 in
theorem impl_Op_apply.calls (k : Nat) (a0_0 : Int) (a0_1 : Int) (a0_2 : ByteArray) (a1 : ByteArray) (a2 : Bool) (r1 : ByteArray) (r2 : Bool) (w : World) (h : impl_Op_apply.f k a0_0 a0_1 a0_2 a1 a2 = some (r1, r2)) :
  Calls Try.prog 96 #[.agg #[.int .i64 a0_0, .int .i64 a0_1, .string a0_2], .string a1, .bool a2] w fun e w' => e = .returned (.tuple #[.string r1, .bool r2]) ∧ Below w.heap.size w w' := by
 have hu60 := Try.underlying60
 have HB := am (Below.refl w.heap.size w)
 have H : (if a2 = true then (impl_Op_apply.j0 k a1 a2 a0_0 a0_1 a0_2) else (impl_Op_apply.j0 k (⟨#[]⟩ : ByteArray) a2 a0_0 a0_1 a0_2)) = some (r1, r2) := h
 clear h
 have HC4 := am H
 clear H
 go_enter Try.func96, Try.ntmps96
 go_upto_if 9 with (first | ((with_reducible refine gate_dst (N := 3) rfl ?_); refine box_event ?hg (N := 3) ?hd (cs := #[.int .i64 a0_0, .int .i64 a0_1, .string a0_2]) (t := 60) ?hr ?_; (case hd => rfl); (case hg => rfl); (case hr => first | (go_simp; done) | (go_simp; rfl)); intro gb148 hg w5 hbox hb; have n0_ := am (below_step (by repeat (first | (with_reducible first | exact HB.out | apply bal | apply pdn | apply bd1) | exact HB.out)) hb); have n1_ := am (hbox); have n2_ := am ((by rw [hg]; exact (below_size (by repeat (first | (with_reducible first | exact HB.out | apply bal | apply pdn | apply bd1) | exact HB.out))) : w.heap.size ≤ gb148)); have n3_ := am ((by rw [hg]; exact (below_size (by repeat (first | (with_reducible first | exact HB.out | apply bal | apply pdn | apply bd1) | exact HB.out))) : w.heap.size ≤ gb148)); clear HB; have HB := n0_; have BK148 := n1_; have GW148 := n2_; have GE148 := n3_; clear n0_ n1_ n2_ n3_; clear hb hbox hg))
 (try simp only [Act.put, sit, scz, scs])
 go_cut [1] (fun v1 wc => ∃ (kq : Nat) (x1_3 : ByteArray), v1 = .string x1_3 ∧ Aside0 (impl_Op_apply.j0 kq x1_3 a2 a0_0 a0_1 a0_2 = some (r1, r2)) ∧ Aside0 (kq ≤ k) ∧ Aside0 (wc.heap[gb148]? = some (.cells #[.int .i64 a0_0, .int .i64 a0_1, .string a0_2] 60 (0, 0))) ∧ Aside0 (Below w.heap.size w wc))
 case first =>
  have H := HC4.out
  clear HC4
  by_cases c6 : a2 = true
  ·subst c6
   have H1 : (impl_Op_apply.j0 k a1 true a0_0 a0_1 a0_2) = some (r1, r2) := by rw [if_pos rfl] at H; exact H
   clear H
   have H := H1
   clear H1
   have H' := am H
   clear H
   go_wp2
   go_meet
   case rel => exact ⟨_, (a1), (by first | rfl | (simp; done) | (simp [*]; done)), H', ⟨by first | omega | exact Nat.le_refl _⟩, ⟨by (with_reducible repeat (first | apply kdn | apply kdr | apply kal)); exact BK148.out⟩, ⟨by repeat (first | (with_reducible first | exact HB.out | apply bal | apply pdn | apply bd1 | refine bst ?_ GE148.out) | exact HB.out)⟩⟩
  ·replace c6 := Bool.eq_false_iff.mpr c6
   subst c6
   have H1 : (impl_Op_apply.j0 k (⟨#[]⟩ : ByteArray) false a0_0 a0_1 a0_2) = some (r1, r2) := by rw [if_neg (show ¬ (false = true) by decide)] at H; exact H
   clear H
   have H := H1
   clear H1
   have H' := am H
   clear H
   go_wp2
   go_meet
   case rel => exact ⟨_, ((⟨#[]⟩ : ByteArray)), (by first | rfl | (simp; done) | (simp [*]; done)), H', ⟨by first | omega | exact Nat.le_refl _⟩, ⟨by (with_reducible repeat (first | apply kdn | apply kdr | apply kal)); exact BK148.out⟩, ⟨by repeat (first | (with_reducible first | exact HB.out | apply bal | apply pdn | apply bd1 | refine bst ?_ GE148.out) | exact HB.out)⟩⟩
 case rest =>
  clear HC4
  obtain ⟨kq, x1_3, rfl, HA, HJ3, BK148, HB⟩ := hcut
  cases kq with
  | zero => exact absurd HA.out (by simp [impl_Op_apply.j0])
  | succ kj3 =>
   have H := HA.out
   clear HA
   simp only [impl_Op_apply.j0] at H
   by_cases c7 : a0_0 = 2
   ·rw [if_pos c7] at H
    have c7b0 : (a0_0 == 2) = true := beq_iff_eq.mpr c7
    have c7b1 : (a0_0 != 2) = false := bne_eq_false_iff_eq.mpr c7
    clear c7
    simp only [Option.some.injEq, Prod.mk.injEq] at H
    obtain ⟨rfl, rfl⟩ := H
    have hcz8_0 : wc.cell? ⟨gb148, 0, none⟩ = some (.int .i64 a0_0) := (kce BK148.out 0).trans rfl
    have hcz8_1 : wc.cell? ⟨gb148, 1, none⟩ = some (.int .i64 a0_1) := (kce BK148.out 1).trans rfl
    have hcz8_2 : wc.cell? ⟨gb148, 2, none⟩ = some (.string a0_2) := (kce BK148.out 2).trans rfl
    have hfz8_0 := kfr BK148.out 0
    have hfz8_1 := kfr BK148.out 1
    have hfz8_2 := kfr BK148.out 2
    go_wp2
    go_ret2
    exact ⟨by first | rfl | (simp [errW_none, errW_some] <;> rfl) | (simp [*, errW_none, errW_some] <;> rfl), by repeat (first | (with_reducible first | exact HB.out | apply bal | apply pdn | apply bd1 | refine bst ?_ GE148.out) | exact HB.out)⟩
   ·rw [if_neg c7] at H
    have c7b0 : (a0_0 == 2) = false := beq_eq_false_iff_ne.mpr c7
    have c7b1 : (a0_0 != 2) = true := bne_iff_ne.mpr c7
    by_cases c9 : a0_0 = 3
    ·rw [if_pos c9] at H
     have c9b0 : (a0_0 == 3) = true := beq_iff_eq.mpr c9
     have c9b1 : (a0_0 != 3) = false := bne_eq_false_iff_eq.mpr c9
     clear c9
     replace H := Option.bind_eq_some_iff.mp H
     obtain ⟨t149, A100, H⟩ := H
     replace H : (some (t149, true)) = some (r1, r2) := H
     have A10 := am A100
     clear A100
     simp only [Option.some.injEq, Prod.mk.injEq] at H
     obtain ⟨rfl, rfl⟩ := H
     have hcz11_0 : wc.cell? ⟨gb148, 0, none⟩ = some (.int .i64 a0_0) := (kce BK148.out 0).trans rfl
     have hcz11_1 : wc.cell? ⟨gb148, 1, none⟩ = some (.int .i64 a0_1) := (kce BK148.out 1).trans rfl
     have hcz11_2 : wc.cell? ⟨gb148, 2, none⟩ = some (.string a0_2) := (kce BK148.out 2).trans rfl
     have hfz11_0 := kfr BK148.out 0
     have hfz11_1 := kfr BK148.out 1
     have hfz11_2 := kfr BK148.out 2
     go_wp2_with (first | ((with_reducible refine gate_callee (f := 122) rfl ?_); refine goesL_ (some 23) rfl rfl Try.func122 (by kernel_rfl) rfl #[.string x1_3, .int .i64 a0_1, .string a0_2] rfl (by (try simp only [mta, mco, mni]); first | done | rfl | (simp only [lnd, lnt]; rfl)) ?_; (with_reducible refine (impl_overwritten.calls x1_3 a0_1 a0_2 t149 _ A10.out).mono ?_); rintro e w12 ⟨rfl, hb⟩; refine ⟨_, rfl, ?_⟩; have n0_ := am (kbb (g := gb148) (o := .cells #[.int .i64 a0_0, .int .i64 a0_1, .string a0_2] 60 (0, 0)) (by (with_reducible repeat (first | apply kdn | apply kdr | apply kal)); exact BK148.out) hb); have n1_ := am (below_step (by repeat (first | (with_reducible first | exact HB.out | apply bal | apply pdn | apply bd1 | refine bst ?_ GE148.out) | exact HB.out)) hb); clear BK148; clear HB; have BK148 := n0_; have HB := n1_; clear n0_ n1_; (try clear hb); (try clear hb2); (try clear hk); (try clear hi)))
     go_ret2
     exact ⟨by first | rfl | (simp [errW_none, errW_some] <;> rfl) | (simp [*, errW_none, errW_some] <;> rfl), by repeat (first | (with_reducible first | exact HB.out | apply bal | apply pdn | apply bd1 | refine bst ?_ GE148.out) | exact HB.out)⟩
    ·rw [if_neg c9] at H
     have c9b0 : (a0_0 == 3) = false := beq_eq_false_iff_ne.mpr c9
     have c9b1 : (a0_0 != 3) = true := bne_iff_ne.mpr c9
     by_cases c13 : a0_0 = 4
     ·rw [if_pos c13] at H
      have c13b0 : (a0_0 == 4) = true := beq_iff_eq.mpr c13
      have c13b1 : (a0_0 != 4) = false := bne_eq_false_iff_eq.mpr c13
      clear c13
      replace H := Option.bind_eq_some_iff.mp H
      obtain ⟨t150, A140, H⟩ := H
      replace H : (some (t150, true)) = some (r1, r2) := H
      have A14 := am A140
      clear A140
      simp only [Option.some.injEq, Prod.mk.injEq] at H
      obtain ⟨rfl, rfl⟩ := H
      have hcz15_0 : wc.cell? ⟨gb148, 0, none⟩ = some (.int .i64 a0_0) := (kce BK148.out 0).trans rfl
      have hcz15_1 : wc.cell? ⟨gb148, 1, none⟩ = some (.int .i64 a0_1) := (kce BK148.out 1).trans rfl
      have hcz15_2 : wc.cell? ⟨gb148, 2, none⟩ = some (.string a0_2) := (kce BK148.out 2).trans rfl
      have hfz15_0 := kfr BK148.out 0
      have hfz15_1 := kfr BK148.out 1
      have hfz15_2 := kfr BK148.out 2
      go_wp2_with (first | ((with_reducible refine gate_callee (f := 122) rfl ?_); refine goesL_ (some 31) rfl rfl Try.func122 (by kernel_rfl) rfl #[.string x1_3, .int .i64 (x1_3.size : Int), .string a0_2] rfl (by (try simp only [mta, mco, mni]); first | done | rfl | (simp only [lnd, lnt]; rfl)) ?_; (with_reducible refine (impl_overwritten.calls x1_3 (x1_3.size : Int) a0_2 t150 _ A14.out).mono ?_); rintro e w16 ⟨rfl, hb⟩; refine ⟨_, rfl, ?_⟩; have n0_ := am (kbb (g := gb148) (o := .cells #[.int .i64 a0_0, .int .i64 a0_1, .string a0_2] 60 (0, 0)) (by (with_reducible repeat (first | apply kdn | apply kdr | apply kal)); exact BK148.out) hb); have n1_ := am (below_step (by repeat (first | (with_reducible first | exact HB.out | apply bal | apply pdn | apply bd1 | refine bst ?_ GE148.out) | exact HB.out)) hb); clear BK148; clear HB; have BK148 := n0_; have HB := n1_; clear n0_ n1_; (try clear hb); (try clear hb2); (try clear hk); (try clear hi)))
      go_ret2
      exact ⟨by first | rfl | (simp [errW_none, errW_some] <;> rfl) | (simp [*, errW_none, errW_some] <;> rfl), by repeat (first | (with_reducible first | exact HB.out | apply bal | apply pdn | apply bd1 | refine bst ?_ GE148.out) | exact HB.out)⟩
     ·rw [if_neg c13] at H
      have c13b0 : (a0_0 == 4) = false := beq_eq_false_iff_ne.mpr c13
      have c13b1 : (a0_0 != 4) = true := bne_iff_ne.mpr c13
      by_cases c17 : a0_0 = 5
      ·rw [if_pos c17] at H
       have c17b0 : (a0_0 == 5) = true := beq_iff_eq.mpr c17
       have c17b1 : (a0_0 != 5) = false := bne_eq_false_iff_eq.mpr c17
       clear c17
       obtain ⟨ji18, hji18⟩ : ∃ j_ : Int, (mn (x1_3.size : Int) a0_1) = j_ := ⟨_, rfl⟩
       replace H : (if 0 ≤ (ji18) then (if (ji18) ≤ (x1_3.size : Int) then (some (x1_3.extract 0 ((ji18) : Int).toNat, a2)) else (none)) else (none)) = some (r1, r2) := by first | (rw [hji18] at H; exact H) | (simp only [hji18] at H ⊢; exact H)
       have hji18_ : (if a0_1 < (x1_3.size : Int) then a0_1 else (x1_3.size : Int)) = ji18 := hji18
       by_cases c19 : 0 ≤ (ji18)
       ·rw [if_pos c19] at H
        have c19b0 := eq_true c19
        have c19b1 : decide (0 ≤ (ji18)) = true := decide_eq_true c19
        clear c19
        by_cases c20 : (ji18) ≤ (x1_3.size : Int)
        ·rw [if_pos c20] at H
         have c20b0 := eq_true c20
         have c20b1 : decide ((ji18) ≤ (x1_3.size : Int)) = true := decide_eq_true c20
         clear c20
         simp only [Option.some.injEq, Prod.mk.injEq] at H
         obtain ⟨rfl, rfl⟩ := H
         have hcz21_0 : wc.cell? ⟨gb148, 0, none⟩ = some (.int .i64 a0_0) := (kce BK148.out 0).trans rfl
         have hcz21_1 : wc.cell? ⟨gb148, 1, none⟩ = some (.int .i64 a0_1) := (kce BK148.out 1).trans rfl
         have hcz21_2 : wc.cell? ⟨gb148, 2, none⟩ = some (.string a0_2) := (kce BK148.out 2).trans rfl
         have hfz21_0 := kfr BK148.out 0
         have hfz21_1 := kfr BK148.out 1
         have hfz21_2 := kfr BK148.out 2
         go_wp2
         go_ret2
         exact ⟨by first | rfl | (simp [errW_none, errW_some] <;> rfl) | (simp only [← hji18]; first | rfl | (simp [errW_none, errW_some] <;> rfl)) | (simp [*, errW_none, errW_some] <;> rfl), by repeat (first | (with_reducible first | exact HB.out | apply bal | apply pdn | apply bd1 | refine bst ?_ GE148.out) | exact HB.out)⟩
        ·rw [if_neg c20] at H
         exact absurd H (by simp)
       ·rw [if_neg c19] at H
        exact absurd H (by simp)
      ·rw [if_neg c17] at H
       have c17b0 : (a0_0 == 5) = false := beq_eq_false_iff_ne.mpr c17
       have c17b1 : (a0_0 != 5) = true := bne_iff_ne.mpr c17
       by_cases c22 : a0_0 = 6
       ·rw [if_pos c22] at H
        have c22b0 : (a0_0 == 6) = true := beq_iff_eq.mpr c22
        have c22b1 : (a0_0 != 6) = false := bne_eq_false_iff_eq.mpr c22
        clear c22
        simp only [Option.some.injEq, Prod.mk.injEq] at H
        obtain ⟨rfl, rfl⟩ := H
        have hcz23_0 : wc.cell? ⟨gb148, 0, none⟩ = some (.int .i64 a0_0) := (kce BK148.out 0).trans rfl
        have hcz23_1 : wc.cell? ⟨gb148, 1, none⟩ = some (.int .i64 a0_1) := (kce BK148.out 1).trans rfl
        have hcz23_2 : wc.cell? ⟨gb148, 2, none⟩ = some (.string a0_2) := (kce BK148.out 2).trans rfl
        have hfz23_0 := kfr BK148.out 0
        have hfz23_1 := kfr BK148.out 1
        have hfz23_2 := kfr BK148.out 2
        go_wp2
        go_ret2
        exact ⟨by first | rfl | (simp [errW_none, errW_some] <;> rfl) | (simp [*, errW_none, errW_some] <;> rfl), by repeat (first | (with_reducible first | exact HB.out | apply bal | apply pdn | apply bd1 | refine bst ?_ GE148.out) | exact HB.out)⟩
       ·rw [if_neg c22] at H
        have c22b0 : (a0_0 == 6) = false := beq_eq_false_iff_ne.mpr c22
        have c22b1 : (a0_0 != 6) = true := bne_iff_ne.mpr c22
        simp only [Option.some.injEq, Prod.mk.injEq] at H
        obtain ⟨rfl, rfl⟩ := H
        have hcz24_0 : wc.cell? ⟨gb148, 0, none⟩ = some (.int .i64 a0_0) := (kce BK148.out 0).trans rfl
        have hcz24_1 : wc.cell? ⟨gb148, 1, none⟩ = some (.int .i64 a0_1) := (kce BK148.out 1).trans rfl
        have hcz24_2 : wc.cell? ⟨gb148, 2, none⟩ = some (.string a0_2) := (kce BK148.out 2).trans rfl
        have hfz24_0 := kfr BK148.out 0
        have hfz24_1 := kfr BK148.out 1
        have hfz24_2 := kfr BK148.out 2
        go_wp2
        go_ret2
        exact ⟨by first | rfl | (simp [errW_none, errW_some] <;> rfl) | (simp [*, errW_none, errW_some] <;> rfl), by repeat (first | (with_reducible first | exact HB.out | apply bal | apply pdn | apply bd1 | refine bst ?_ GE148.out) | exact HB.out)⟩

end Go.Proofs.Ythphhklbliambaa.MFnExactApplyOps
