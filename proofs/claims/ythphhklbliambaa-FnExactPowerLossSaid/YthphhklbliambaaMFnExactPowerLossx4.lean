-- Written by a program of this session (wip/tools/myprint.py) over the kit's print: it is not the kit's print.
import Derived.Test.YthphhklbliambaaExtra
import Derived.Test.YthphhklbliambaaMFnExactPowerLossx0
import Derived.Test.YthphhklbliambaaMFnExactPowerLossx3
namespace Go.Proofs.Ythphhklbliambaa.MFnExactPowerLoss
open Go.RowKit Go.Proofs.YthphhklbliambaaW.PrintWords Go.Proofs.YthphhklbliambaaW.PrintLast Go.Proofs.YthphhklbliambaaW.PrintMore
open List renaming setIfInBounds_toArray → sit, set_cons_zero → scz, set_cons_succ → scs, map_toArray → mta, map_cons → mco, map_nil → mni, length_drop → lnd, length_take → lnt
open World renaming block_lt_of_cell? → blc
attribute [local go_sem] max2_int min2_int max_two min_two max_three min_three max_four min_four   -- for this text's walks alone
set_option linter.unusedVariables false
set_option linter.unusedSimpArgs false

/-! ### spec_DiskOk: function 16 -/
mutual
def spec_DiskOk.j0 : Nat → Int → Bool → List ByteArray → List (S55) → Option (Bool)
 | 0, _, _, _, _ => none
 | k + 1, x3, x20, x165000, x165001 => if x20 = true then (some false) else (spec_DiskOk.l0 k x3 0 x165000 x165001)
def spec_DiskOk.l0 : Nat → Int → Int → List ByteArray → List (S55) → Option (Bool)
 | 0, _, _, _, _ => none
 | k + 1, x3, x4, x165000, x165001 => if x4 < (x165000.length : Int) then (if 0 ≤ x4 then (if ((rdOf ByteArray.empty x165000 x4).size : Int) = 64 then (spec_DiskOk.l0 k x3 (wrap64 (x4 + 1)) x165000 x165001) else (some false)) else (none)) else (spec_DiskOk.l1 k x3 0 x165000 x165001)
def spec_DiskOk.l1 : Nat → Int → Int → List ByteArray → List (S55) → Option (Bool)
 | 0, _, _, _, _ => none
 | k + 1, x3, x5, x165000, x165001 => if x5 < (x165001.length : Int) then (if 0 ≤ x5 then ((spec_l00In.f ((rd_T55 x165001 x5).f0) 0 (wrap64 (x3 - 1))).bind fun t167 => (if t167 = true then (if (((rd_T55 x165001 x5).f1).size : Int) = 64 then (spec_DiskOk.l1 k x3 (wrap64 (x5 + 1)) x165000 x165001) else (some false)) else (some false))) else (none)) else (some true)
end
def spec_DiskOk.f (k : Nat) (l0_0 : List ByteArray) (l0_1 : List (S55)) : Option (Bool) := if (l0_0.length : Int) < 1 then (spec_DiskOk.j0 k (l0_0.length : Int) true l0_0 l0_1) else (if (l0_0.length : Int) > 1200 then (spec_DiskOk.j0 k (l0_0.length : Int) true l0_0 l0_1) else (spec_DiskOk.j0 k (l0_0.length : Int) (decide ((l0_1.length : Int) > 600)) l0_0 l0_1))
theorem spec_DiskOk.mono_l : ∀ k, (∀ y0 y1 y2 y3, LeO (spec_DiskOk.j0 k y0 y1 y2 y3) (spec_DiskOk.j0 (k + 1) y0 y1 y2 y3)) ∧ (∀ y0 y1 y2 y3, LeO (spec_DiskOk.l0 k y0 y1 y2 y3) (spec_DiskOk.l0 (k + 1) y0 y1 y2 y3)) ∧ (∀ y0 y1 y2 y3, LeO (spec_DiskOk.l1 k y0 y1 y2 y3) (spec_DiskOk.l1 (k + 1) y0 y1 y2 y3))
 | 0 => ⟨fun _ _ _ _ r h => by simp [spec_DiskOk.j0] at h, fun _ _ _ _ r h => by simp [spec_DiskOk.l0] at h, fun _ _ _ _ r h => by simp [spec_DiskOk.l1] at h⟩
 | k + 1 => by
  obtain ⟨ih0, ih1, ih2⟩ := spec_DiskOk.mono_l k
  refine ⟨?_, ?_, ?_⟩
  ·intro y0 y1 y2 y3
   unfold spec_DiskOk.j0
   repeat' first
   | (with_reducible exact ih0 _ _ _ _)
   | (with_reducible exact ih1 _ _ _ _)
   | (with_reducible exact ih2 _ _ _ _)
   | (with_reducible exact LeO.refl _)
   | (with_reducible exact LeO.none _)
   | (with_reducible refine LeO.ite ?_ ?_)
   | (with_reducible refine LeO.bind ?_ (fun _ => ?_))
   | exact ih0 _ _ _ _
   | exact ih1 _ _ _ _
   | exact ih2 _ _ _ _
   | exact LeO.none _
   | refine LeO.ite ?_ ?_
   | refine LeO.bind ?_ (fun _ => ?_)
  ·intro y0 y1 y2 y3
   unfold spec_DiskOk.l0
   repeat' first
   | (with_reducible exact ih0 _ _ _ _)
   | (with_reducible exact ih1 _ _ _ _)
   | (with_reducible exact ih2 _ _ _ _)
   | (with_reducible exact LeO.refl _)
   | (with_reducible exact LeO.none _)
   | (with_reducible refine LeO.ite ?_ ?_)
   | (with_reducible refine LeO.bind ?_ (fun _ => ?_))
   | exact ih0 _ _ _ _
   | exact ih1 _ _ _ _
   | exact ih2 _ _ _ _
   | exact LeO.none _
   | refine LeO.ite ?_ ?_
   | refine LeO.bind ?_ (fun _ => ?_)
  ·intro y0 y1 y2 y3
   unfold spec_DiskOk.l1
   repeat' first
   | (with_reducible exact ih0 _ _ _ _)
   | (with_reducible exact ih1 _ _ _ _)
   | (with_reducible exact ih2 _ _ _ _)
   | (with_reducible exact LeO.refl _)
   | (with_reducible exact LeO.none _)
   | (with_reducible refine LeO.ite ?_ ?_)
   | (with_reducible refine LeO.bind ?_ (fun _ => ?_))
   | exact ih0 _ _ _ _
   | exact ih1 _ _ _ _
   | exact ih2 _ _ _ _
   | exact LeO.none _
   | refine LeO.ite ?_ ?_
   | refine LeO.bind ?_ (fun _ => ?_)
theorem spec_DiskOk.mono : ∀ a0 a1 k, LeO (spec_DiskOk.f k a0 a1) (spec_DiskOk.f (k + 1) a0 a1) := by
 intro a0 a1 k
 obtain ⟨ih0, ih1, ih2⟩ := spec_DiskOk.mono_l k
 unfold spec_DiskOk.f
 repeat' first
   | (with_reducible exact ih0 _ _ _ _)
   | (with_reducible exact ih1 _ _ _ _)
   | (with_reducible exact ih2 _ _ _ _)
   | (with_reducible exact LeO.refl _)
   | (with_reducible exact LeO.none _)
   | (with_reducible refine LeO.ite ?_ ?_)
   | (with_reducible refine LeO.bind ?_ (fun _ => ?_))
   | exact ih0 _ _ _ _
   | exact ih1 _ _ _ _
   | exact ih2 _ _ _ _
   | exact LeO.none _
   | refine LeO.ite ?_ ?_
   | refine LeO.bind ?_ (fun _ => ?_)
set_option maxHeartbeats 8000000 in
set_option maxRecDepth 100000 in
theorem spec_DiskOk.calls (k : Nat) (A0_0 : Option Addr) (c0_0 : Nat) (l0_0 : List ByteArray) (A0_1 : Option Addr) (c0_1 : Nat) (l0_1 : List (S55)) (r : Bool) (w : World) (hr0_0 : Kd.C Kd.string w A0_0 l0_0.length l0_0) (hc0_0 : l0_0.length ≤ c0_0) (hr0_1 : Kd.C k55 w A0_1 l0_1.length l0_1) (hc0_1 : l0_1.length ≤ c0_1) (h : spec_DiskOk.f k l0_0 l0_1 = some r) :
  Calls Try.prog 16 #[.agg #[.slice A0_0 l0_0.length c0_0, .slice A0_1 l0_1.length c0_1]] w fun e w' => e = .returned (.bool r) ∧ Below w.heap.size w w' := by
 have hu30 := Try.underlying30
 have HR0_0 := am hr0_0
 have HC0_0 := am hc0_0
 clear hr0_0 hc0_0
 have HR0_1 := am hr0_1
 have HC0_1 := am hc0_1
 clear hr0_1 hc0_1
 have HB := am (Below.refl w.heap.size w)
 have H : (if (l0_0.length : Int) < 1 then (spec_DiskOk.j0 k (l0_0.length : Int) true l0_0 l0_1) else (if (l0_0.length : Int) > 1200 then (spec_DiskOk.j0 k (l0_0.length : Int) true l0_0 l0_1) else (spec_DiskOk.j0 k (l0_0.length : Int) (decide ((l0_1.length : Int) > 600)) l0_0 l0_1))) = some r := h
 clear h
 have HC2 := am H
 clear H
 go_enter Try.func16, Try.ntmps16
 go_upto_region 2 with (first | ((with_reducible refine gate_dst (N := 1) rfl ?_); (try (refine gate_guard (by rfl) ?_; dsimp only)); refine box_event ?hg (N := 1) ?hd (cs := #[.slice A0_0 l0_0.length c0_0, .slice A0_1 l0_1.length c0_1]) (t := 30) ?hr ?_; (case hd => rfl); (case hg => rfl); (case hr => first | (go_simp; done) | (go_simp; rfl)); intro gb164 hg w3 hbox hb; have n0_ := am (below_step (by repeat (first | (with_reducible first | exact HB.out | apply bal | apply pdn | apply bd1) | exact HB.out)) hb); have n1_ := am (hbox); have n2_ := am ((by rw [hg]; exact (below_size (by repeat (first | (with_reducible first | exact HB.out | apply bal | apply pdn | apply bd1) | exact HB.out))) : w.heap.size ≤ gb164)); have n3_ := am ((by rw [hg]; exact (below_size (by repeat (first | (with_reducible first | exact HB.out | apply bal | apply pdn | apply bd1) | exact HB.out))) : w.heap.size ≤ gb164)); clear HB; have HB := n0_; have BK164 := n1_; have GW164 := n2_; have GE164 := n3_; clear n0_ n1_ n2_ n3_; clear hb hbox hg; have hcz4_0 : w3.cell? ⟨gb164, 0, none⟩ = some (.slice A0_0 l0_0.length c0_0) := (kce BK164.out 0).trans rfl; have hcz4_1 : w3.cell? ⟨gb164, 1, none⟩ = some (.slice A0_1 l0_1.length c0_1) := (kce BK164.out 1).trans rfl; have hfz4_0 := kfr BK164.out 0; have hfz4_1 := kfr BK164.out 1))
 (try simp only [Act.put, sit, scz, scs])
 go_cut [20] (fun v20 wc => ∃ (kq : Nat) (x20_1 : Bool), v20 = .bool x20_1 ∧ Aside0 (spec_DiskOk.j0 kq (l0_0.length : Int) x20_1 l0_0 l0_1 = some r) ∧ Aside0 (kq ≤ k) ∧ Aside0 (wc.heap[gb164]? = some (.cells #[(.slice A0_0 l0_0.length c0_0), (.slice A0_1 l0_1.length c0_1)] 30 (0, 0))) ∧ Aside0 (Below w.heap.size w wc))
 case first =>
  have H := HC2.out
  clear HC2
  by_cases c5 : (l0_0.length : Int) < 1
  ·rw [if_pos c5] at H
   have c5b0 : decide ((l0_0.length : Int) < 1) = true := decide_eq_true c5
   have c5b1 : decide (l0_0.length < 1) = true := decide_eq_true (by omega)
   clear c5
   (first | rw [c5b0] | (simp only [i64_w, i32_w]; rw [c5b0]) | skip)
   have H' := am H
   clear H
   go_wp2
   go_meet
   case rel => exact ⟨_, (true), (by first | rfl | (simp; done) | (simp [*]; done)), H', ⟨by first | omega | exact Nat.le_refl _⟩, ⟨by (with_reducible repeat (first | apply kdn | apply kdr | apply kal)); exact BK164.out⟩, ⟨by repeat (first | (with_reducible first | exact HB.out | apply bal | apply pdn | apply bd1 | refine bst ?_ GE164.out) | exact HB.out)⟩⟩
  ·rw [if_neg c5] at H
   have c5b0 : decide ((l0_0.length : Int) < 1) = false := decide_eq_false c5
   have c5b1 : decide (l0_0.length < 1) = false := decide_eq_false (by omega)
   clear c5
   (first | rw [c5b0] | (simp only [i64_w, i32_w]; rw [c5b0]) | skip)
   by_cases c6 : (l0_0.length : Int) > 1200
   ·rw [if_pos c6] at H
    have c6b0 : decide (1200 < (l0_0.length : Int)) = true := decide_eq_true c6
    have c6b1 : decide (1200 < l0_0.length) = true := decide_eq_true (by omega)
    clear c6
    have H' := am H
    clear H
    go_wp2
    go_meet
    case rel => exact ⟨_, (true), (by first | rfl | (simp; done) | (simp [*]; done)), H', ⟨by first | omega | exact Nat.le_refl _⟩, ⟨by (with_reducible repeat (first | apply kdn | apply kdr | apply kal)); exact BK164.out⟩, ⟨by repeat (first | (with_reducible first | exact HB.out | apply bal | apply pdn | apply bd1 | refine bst ?_ GE164.out) | exact HB.out)⟩⟩
   ·rw [if_neg c6] at H
    have c6b0 : decide (1200 < (l0_0.length : Int)) = false := decide_eq_false c6
    have c6b1 : decide (1200 < l0_0.length) = false := decide_eq_false (by omega)
    clear c6
    have H' := am H
    clear H
    have hcz7_0 : w3.cell? ⟨gb164, 0, none⟩ = some (.slice A0_0 l0_0.length c0_0) := (kce BK164.out 0).trans rfl
    have hcz7_1 : w3.cell? ⟨gb164, 1, none⟩ = some (.slice A0_1 l0_1.length c0_1) := (kce BK164.out 1).trans rfl
    have hfz7_0 := kfr BK164.out 0
    have hfz7_1 := kfr BK164.out 1
    go_wp2
    go_meet
    case rel => exact ⟨_, (decide ((l0_1.length : Int) > 600)), (by first | rfl | (simp; done) | (simp [*]; done)), H', ⟨by first | omega | exact Nat.le_refl _⟩, ⟨by (with_reducible repeat (first | apply kdn | apply kdr | apply kal)); exact BK164.out⟩, ⟨by repeat (first | (with_reducible first | exact HB.out | apply bal | apply pdn | apply bd1 | refine bst ?_ GE164.out) | exact HB.out)⟩⟩
 case rest =>
  clear HC2
  obtain ⟨kq, x20_1, rfl, HA, HJ1, BK164, HB⟩ := hcut
  cases kq with
  | zero => exact absurd HA.out (by simp [spec_DiskOk.j0])
  | succ kj1 =>
   have H := HA.out
   clear HA
   simp only [spec_DiskOk.j0] at H
   by_cases c8 : x20_1 = true
   ·subst c8
    have H1 : (some false) = some r := by rw [if_pos rfl] at H; exact H
    clear H
    have H := H1
    clear H1
    obtain rfl := Option.some.inj H
    go_wp2
    go_ret
    exact ⟨by first | rfl | (simp [errW_none, errW_some] <;> rfl) | (simp [*, errW_none, errW_some] <;> rfl), by repeat (first | (with_reducible first | exact HB.out | apply bal | apply pdn | apply bd1 | refine bst ?_ GE164.out) | exact HB.out)⟩
   ·replace c8 := Bool.eq_false_iff.mpr c8
    subst c8
    have H1 : (spec_DiskOk.l0 kj1 (l0_0.length : Int) 0 l0_0 l0_1) = some r := by rw [if_neg (show ¬ (false = true) by decide)] at H; exact H
    clear H
    have H := H1
    clear H1
    have H' := am H
    clear H
    go_wp2
    go_loopg [4] kj1 (fun kq v4 w' => ∃ (x4_2 : Int), v4 = .int .i64 x4_2 ∧ Aside0 (spec_DiskOk.l0 kq (l0_0.length : Int) x4_2 l0_0 l0_1 = some r) ∧ Aside0 (kq ≤ kj1) ∧ Aside0 (w'.heap[gb164]? = some (.cells #[(.slice A0_0 l0_0.length c0_0), (.slice A0_1 l0_1.length c0_1)] 30 (0, 0))) ∧ Aside0 (Below w.heap.size w w'))
    case atStart => exact ⟨(0), (by first | rfl | (simp; done) | (simp [*]; done)), H', ⟨Nat.le_refl _⟩, ⟨by (with_reducible repeat (first | apply kdn | apply kdr | apply kal)); exact BK164.out⟩, ⟨by repeat (first | (with_reducible first | exact HB.out | apply bal | apply pdn | apply bd1 | refine bst ?_ GE164.out) | exact HB.out)⟩⟩
    case round =>
     clear H'
     obtain ⟨x4_2, rfl, HA, HK2, BK164, HB⟩ := hrel
     cases gk with
     | zero => exact absurd HA.out (by simp [spec_DiskOk.l0])
     | succ k2 =>
      have H := HA.out
      clear HA
      simp only [spec_DiskOk.l0] at H
      by_cases c9 : x4_2 < (l0_0.length : Int)
      ·rw [if_pos c9] at H
       have c9b0 : decide (x4_2 < (l0_0.length : Int)) = true := decide_eq_true c9
       clear c9
       by_cases c10 : 0 ≤ x4_2
       ·rw [if_pos c10] at H
        have c10b0 : decide (0 ≤ x4_2) = true := decide_eq_true c10
        clear c10
        by_cases c11 : ((rdOf ByteArray.empty l0_0 x4_2).size : Int) = 64
        ·rw [if_pos c11] at H
         have c11b0 : (((rdOf ByteArray.empty l0_0 x4_2).size : Int) == 64) = true := beq_iff_eq.mpr c11
         have c11b1 : (((rdOf ByteArray.empty l0_0 x4_2).size : Int) != 64) = false := bne_eq_false_iff_eq.mpr c11
         clear c11
         have H' := am H
         clear H
         have hcz12_0 : wr.cell? ⟨gb164, 0, none⟩ = some (.slice A0_0 l0_0.length c0_0) := (kce BK164.out 0).trans rfl
         have hcz12_1 : wr.cell? ⟨gb164, 1, none⟩ = some (.slice A0_1 l0_1.length c0_1) := (kce BK164.out 1).trans rfl
         have hfz12_0 := kfr BK164.out 0
         have hfz12_1 := kfr BK164.out 1
         have p165 : 0 ≤ (x4_2 : Int) := of_decide_eq_true (by first | (with_reducible assumption) | assumption)
         have q165 : x4_2 < (l0_0.length : Int) := of_decide_eq_true (by first | (with_reducible assumption) | assumption)
         obtain ⟨ad165, e165, hx165_0⟩ := Kd.at_string HR0_0.out x4_2 p165 q165
         cases e165
         replace hx165_0 := (HB.out.cell (blc w _ hx165_0)).trans hx165_0
         replace p165 := eq_true p165
         replace q165 := eq_true q165
         go_wp2
         go_roundg k2
         case measure => have := HJ1.out; have := HK2.out; omega
         case rel => exact ⟨(wrap64 (x4_2 + 1)), (by first | rfl | (simp; done) | (simp [*]; done)), H', ⟨by have := HJ1.out; have := HK2.out; omega⟩, ⟨by (with_reducible repeat (first | apply kdn | apply kdr | apply kal)); exact BK164.out⟩, ⟨by repeat (first | (with_reducible first | exact HB.out | apply bal | apply pdn | apply bd1 | refine bst ?_ GE164.out) | exact HB.out)⟩⟩
        ·rw [if_neg c11] at H
         have c11b0 : (((rdOf ByteArray.empty l0_0 x4_2).size : Int) == 64) = false := beq_eq_false_iff_ne.mpr c11
         have c11b1 : (((rdOf ByteArray.empty l0_0 x4_2).size : Int) != 64) = true := bne_iff_ne.mpr c11
         obtain rfl := Option.some.inj H
         have hcz13_0 : wr.cell? ⟨gb164, 0, none⟩ = some (.slice A0_0 l0_0.length c0_0) := (kce BK164.out 0).trans rfl
         have hcz13_1 : wr.cell? ⟨gb164, 1, none⟩ = some (.slice A0_1 l0_1.length c0_1) := (kce BK164.out 1).trans rfl
         have hfz13_0 := kfr BK164.out 0
         have hfz13_1 := kfr BK164.out 1
         have p165 : 0 ≤ (x4_2 : Int) := of_decide_eq_true (by first | (with_reducible assumption) | assumption)
         have q165 : x4_2 < (l0_0.length : Int) := of_decide_eq_true (by first | (with_reducible assumption) | assumption)
         obtain ⟨ad165, e165, hx165_0⟩ := Kd.at_string HR0_0.out x4_2 p165 q165
         cases e165
         replace hx165_0 := (HB.out.cell (blc w _ hx165_0)).trans hx165_0
         replace p165 := eq_true p165
         replace q165 := eq_true q165
         go_wp2
         go_ret
         exact ⟨by first | rfl | (simp [errW_none, errW_some] <;> rfl) | (simp [*, errW_none, errW_some] <;> rfl), by repeat (first | (with_reducible first | exact HB.out | apply bal | apply pdn | apply bd1 | refine bst ?_ GE164.out) | exact HB.out)⟩
       ·rw [if_neg c10] at H
        exact absurd H (by simp)
      ·rw [if_neg c9] at H
       have c9b0 : decide (x4_2 < (l0_0.length : Int)) = false := decide_eq_false c9
       clear c9
       have H' := am H
       clear H
       have hcz14_0 : wr.cell? ⟨gb164, 0, none⟩ = some (.slice A0_0 l0_0.length c0_0) := (kce BK164.out 0).trans rfl
       have hcz14_1 : wr.cell? ⟨gb164, 1, none⟩ = some (.slice A0_1 l0_1.length c0_1) := (kce BK164.out 1).trans rfl
       have hfz14_0 := kfr BK164.out 0
       have hfz14_1 := kfr BK164.out 1
       go_wp2
       go_loopg [5] k2 (fun kq v5 w' => ∃ (x5_3 : Int), v5 = .int .i64 x5_3 ∧ Aside0 (spec_DiskOk.l1 kq (l0_0.length : Int) x5_3 l0_0 l0_1 = some r) ∧ Aside0 (kq ≤ k2) ∧ Aside0 (w'.heap[gb164]? = some (.cells #[(.slice A0_0 l0_0.length c0_0), (.slice A0_1 l0_1.length c0_1)] 30 (0, 0))) ∧ Aside0 (Below w.heap.size w w'))
       case atStart => exact ⟨(0), (by first | rfl | (simp; done) | (simp [*]; done)), H', ⟨Nat.le_refl _⟩, ⟨by (with_reducible repeat (first | apply kdn | apply kdr | apply kal)); exact BK164.out⟩, ⟨by repeat (first | (with_reducible first | exact HB.out | apply bal | apply pdn | apply bd1 | refine bst ?_ GE164.out) | exact HB.out)⟩⟩
       case round =>
        clear H'
        obtain ⟨x5_3, rfl, HA, HK3, BK164, HB⟩ := hrel
        cases gk with
        | zero => exact absurd HA.out (by simp [spec_DiskOk.l1])
        | succ k3 =>
         have H := HA.out
         clear HA
         simp only [spec_DiskOk.l1] at H
         by_cases c15 : x5_3 < (l0_1.length : Int)
         ·rw [if_pos c15] at H
          have c15b0 : decide (x5_3 < (l0_1.length : Int)) = true := decide_eq_true c15
          clear c15
          by_cases c16 : 0 ≤ x5_3
          ·rw [if_pos c16] at H
           have c16b0 : decide (0 ≤ x5_3) = true := decide_eq_true c16
           clear c16
           replace H := Option.bind_eq_some_iff.mp H
           obtain ⟨t167, A170, H⟩ := H
           replace H : (if t167 = true then (if (((rd_T55 l0_1 x5_3).f1).size : Int) = 64 then (spec_DiskOk.l1 k3 (l0_0.length : Int) (wrap64 (x5_3 + 1)) l0_0 l0_1) else (some false)) else (some false)) = some r := H
           have A17 := am A170
           clear A170
           by_cases c18 : t167 = true
           ·subst c18
            have H1 : (if (((rd_T55 l0_1 x5_3).f1).size : Int) = 64 then (spec_DiskOk.l1 k3 (l0_0.length : Int) (wrap64 (x5_3 + 1)) l0_0 l0_1) else (some false)) = some r := by rw [if_pos rfl] at H; exact H
            clear H
            have H := H1
            clear H1
            by_cases c19 : (((rd_T55 l0_1 x5_3).f1).size : Int) = 64
            ·rw [if_pos c19] at H
             have c19b0 : ((((rd_T55 l0_1 x5_3).f1).size : Int) == 64) = true := beq_iff_eq.mpr c19
             have c19b1 : ((((rd_T55 l0_1 x5_3).f1).size : Int) != 64) = false := bne_eq_false_iff_eq.mpr c19
             clear c19
             have H' := am H
             clear H
             have hcz20_0 : wr.cell? ⟨gb164, 0, none⟩ = some (.slice A0_0 l0_0.length c0_0) := (kce BK164.out 0).trans rfl
             have hcz20_1 : wr.cell? ⟨gb164, 1, none⟩ = some (.slice A0_1 l0_1.length c0_1) := (kce BK164.out 1).trans rfl
             have hfz20_0 := kfr BK164.out 0
             have hfz20_1 := kfr BK164.out 1
             have p166 : 0 ≤ (x5_3 : Int) := of_decide_eq_true (by first | (with_reducible assumption) | assumption)
             have q166 : x5_3 < (l0_1.length : Int) := of_decide_eq_true (by first | (with_reducible assumption) | assumption)
             obtain ⟨ad166, e166, hx166_0, hx166_1⟩ := at_T55 HR0_1.out x5_3 p166 q166
             cases e166
             replace hx166_0 := (HB.out.cell (blc w _ hx166_0)).trans hx166_0
             replace hx166_1 := (HB.out.cell (blc w _ hx166_1)).trans hx166_1
             replace p166 := eq_true p166
             replace q166 := eq_true q166
             go_wp2_with (first | ((with_reducible refine gate_callee (f := 57) rfl ?_); refine goesL_ (some 50) rfl rfl Try.func57 (by kernel_rfl) rfl #[.int .i64 ((rd_T55 l0_1 x5_3).f0), .int .i64 0, .int .i64 (wrap64 ((l0_0.length : Int) - 1))] rfl (by (try simp only [mta, mco, mni]); first | done | rfl | (simp only [lnd, lnt]; rfl)) ?_; (with_reducible refine (spec_l00In.calls ((rd_T55 l0_1 x5_3).f0) 0 (wrap64 ((l0_0.length : Int) - 1)) true _ A17.out).mono ?_); rintro e w' ⟨rfl, ⟨nd, rfl⟩⟩; refine ⟨_, rfl, ?_⟩; have p168 : 0 ≤ (x5_3 : Int) := of_decide_eq_true (by first | (with_reducible assumption) | assumption); have q168 : x5_3 < (l0_1.length : Int) := of_decide_eq_true (by first | (with_reducible assumption) | assumption); obtain ⟨ad168, e168, hx168_0, hx168_1⟩ := at_T55 HR0_1.out x5_3 p168 q168; obtain rfl : ad166 = ad168 := (by injection e168); replace hx168_0 := (HB.out.cell (blc w _ hx168_0)).trans hx168_0; replace hx168_1 := (HB.out.cell (blc w _ hx168_1)).trans hx168_1; replace p168 := eq_true p168; replace q168 := eq_true q168))
             go_roundg k3
             case measure => have := HJ1.out; have := HK2.out; have := HK3.out; omega
             case rel => exact ⟨(wrap64 (x5_3 + 1)), (by first | rfl | (simp; done) | (simp [*]; done)), H', ⟨by have := HJ1.out; have := HK2.out; have := HK3.out; omega⟩, ⟨by (with_reducible repeat (first | apply kdn | apply kdr | apply kal)); exact BK164.out⟩, ⟨by repeat (first | (with_reducible first | exact HB.out | apply bal | apply pdn | apply bd1 | refine bst ?_ GE164.out) | exact HB.out)⟩⟩
            ·rw [if_neg c19] at H
             have c19b0 : ((((rd_T55 l0_1 x5_3).f1).size : Int) == 64) = false := beq_eq_false_iff_ne.mpr c19
             have c19b1 : ((((rd_T55 l0_1 x5_3).f1).size : Int) != 64) = true := bne_iff_ne.mpr c19
             obtain rfl := Option.some.inj H
             have hcz21_0 : wr.cell? ⟨gb164, 0, none⟩ = some (.slice A0_0 l0_0.length c0_0) := (kce BK164.out 0).trans rfl
             have hcz21_1 : wr.cell? ⟨gb164, 1, none⟩ = some (.slice A0_1 l0_1.length c0_1) := (kce BK164.out 1).trans rfl
             have hfz21_0 := kfr BK164.out 0
             have hfz21_1 := kfr BK164.out 1
             have p166 : 0 ≤ (x5_3 : Int) := of_decide_eq_true (by first | (with_reducible assumption) | assumption)
             have q166 : x5_3 < (l0_1.length : Int) := of_decide_eq_true (by first | (with_reducible assumption) | assumption)
             obtain ⟨ad166, e166, hx166_0, hx166_1⟩ := at_T55 HR0_1.out x5_3 p166 q166
             cases e166
             replace hx166_0 := (HB.out.cell (blc w _ hx166_0)).trans hx166_0
             replace hx166_1 := (HB.out.cell (blc w _ hx166_1)).trans hx166_1
             replace p166 := eq_true p166
             replace q166 := eq_true q166
             go_wp2_with (first | ((with_reducible refine gate_callee (f := 57) rfl ?_); refine goesL_ (some 50) rfl rfl Try.func57 (by kernel_rfl) rfl #[.int .i64 ((rd_T55 l0_1 x5_3).f0), .int .i64 0, .int .i64 (wrap64 ((l0_0.length : Int) - 1))] rfl (by (try simp only [mta, mco, mni]); first | done | rfl | (simp only [lnd, lnt]; rfl)) ?_; (with_reducible refine (spec_l00In.calls ((rd_T55 l0_1 x5_3).f0) 0 (wrap64 ((l0_0.length : Int) - 1)) true _ A17.out).mono ?_); rintro e w' ⟨rfl, ⟨nd, rfl⟩⟩; refine ⟨_, rfl, ?_⟩; have p168 : 0 ≤ (x5_3 : Int) := of_decide_eq_true (by first | (with_reducible assumption) | assumption); have q168 : x5_3 < (l0_1.length : Int) := of_decide_eq_true (by first | (with_reducible assumption) | assumption); obtain ⟨ad168, e168, hx168_0, hx168_1⟩ := at_T55 HR0_1.out x5_3 p168 q168; obtain rfl : ad166 = ad168 := (by injection e168); replace hx168_0 := (HB.out.cell (blc w _ hx168_0)).trans hx168_0; replace hx168_1 := (HB.out.cell (blc w _ hx168_1)).trans hx168_1; replace p168 := eq_true p168; replace q168 := eq_true q168))
             go_ret
             exact ⟨by first | rfl | (simp [errW_none, errW_some] <;> rfl) | (simp [*, errW_none, errW_some] <;> rfl), by repeat (first | (with_reducible first | exact HB.out | apply bal | apply pdn | apply bd1 | refine bst ?_ GE164.out) | exact HB.out)⟩
           ·replace c18 := Bool.eq_false_iff.mpr c18
            subst c18
            have H1 : (some false) = some r := by rw [if_neg (show ¬ (false = true) by decide)] at H; exact H
            clear H
            have H := H1
            clear H1
            obtain rfl := Option.some.inj H
            have hcz22_0 : wr.cell? ⟨gb164, 0, none⟩ = some (.slice A0_0 l0_0.length c0_0) := (kce BK164.out 0).trans rfl
            have hcz22_1 : wr.cell? ⟨gb164, 1, none⟩ = some (.slice A0_1 l0_1.length c0_1) := (kce BK164.out 1).trans rfl
            have hfz22_0 := kfr BK164.out 0
            have hfz22_1 := kfr BK164.out 1
            have p166 : 0 ≤ (x5_3 : Int) := of_decide_eq_true (by first | (with_reducible assumption) | assumption)
            have q166 : x5_3 < (l0_1.length : Int) := of_decide_eq_true (by first | (with_reducible assumption) | assumption)
            obtain ⟨ad166, e166, hx166_0, hx166_1⟩ := at_T55 HR0_1.out x5_3 p166 q166
            cases e166
            replace hx166_0 := (HB.out.cell (blc w _ hx166_0)).trans hx166_0
            replace hx166_1 := (HB.out.cell (blc w _ hx166_1)).trans hx166_1
            replace p166 := eq_true p166
            replace q166 := eq_true q166
            go_wp2_with (first | ((with_reducible refine gate_callee (f := 57) rfl ?_); refine goesL_ (some 50) rfl rfl Try.func57 (by kernel_rfl) rfl #[.int .i64 ((rd_T55 l0_1 x5_3).f0), .int .i64 0, .int .i64 (wrap64 ((l0_0.length : Int) - 1))] rfl (by (try simp only [mta, mco, mni]); first | done | rfl | (simp only [lnd, lnt]; rfl)) ?_; (with_reducible refine (spec_l00In.calls ((rd_T55 l0_1 x5_3).f0) 0 (wrap64 ((l0_0.length : Int) - 1)) false _ A17.out).mono ?_); rintro e w' ⟨rfl, ⟨nd, rfl⟩⟩; refine ⟨_, rfl, ?_⟩))
            go_ret
            exact ⟨by first | rfl | (simp [errW_none, errW_some] <;> rfl) | (simp [*, errW_none, errW_some] <;> rfl), by repeat (first | (with_reducible first | exact HB.out | apply bal | apply pdn | apply bd1 | refine bst ?_ GE164.out) | exact HB.out)⟩
          ·rw [if_neg c16] at H
           exact absurd H (by simp)
         ·rw [if_neg c15] at H
          have c15b0 : decide (x5_3 < (l0_1.length : Int)) = false := decide_eq_false c15
          clear c15
          obtain rfl := Option.some.inj H
          have hcz23_0 : wr.cell? ⟨gb164, 0, none⟩ = some (.slice A0_0 l0_0.length c0_0) := (kce BK164.out 0).trans rfl
          have hcz23_1 : wr.cell? ⟨gb164, 1, none⟩ = some (.slice A0_1 l0_1.length c0_1) := (kce BK164.out 1).trans rfl
          have hfz23_0 := kfr BK164.out 0
          have hfz23_1 := kfr BK164.out 1
          go_wp2
          go_ret
          exact ⟨by first | rfl | (simp [errW_none, errW_some] <;> rfl) | (simp [*, errW_none, errW_some] <;> rfl), by repeat (first | (with_reducible first | exact HB.out | apply bal | apply pdn | apply bd1 | refine bst ?_ GE164.out) | exact HB.out)⟩

/-! ### spec_l00Rises: function 76 -/
def spec_l00Rises.l0 : Nat → List Int → Int → Int → Int → Option (Bool)
 | 0, _, _, _, _ => none
 | k + 1, x0, x1, x2, x7 => if x7 < (x0.length : Int) then (if 0 ≤ x7 then ((spec_l00In.f (rd x0 x7) x1 x2).bind fun t170 => (if t170 = true then (if x7 > 0 then (if 0 ≤ (wrap64 (x7 - 1)) then (if (wrap64 (x7 - 1)) < (x0.length : Int) then (if (rd x0 (wrap64 (x7 - 1))) ≥ (rd x0 x7) then (some false) else (spec_l00Rises.l0 k x0 x1 x2 (wrap64 (x7 + 1)))) else (none)) else (none)) else (spec_l00Rises.l0 k x0 x1 x2 (wrap64 (x7 + 1)))) else (some false))) else (none)) else (some true)
def spec_l00Rises.f (k : Nat) (l0 : List Int) (a1 : Int) (a2 : Int) : Option (Bool) := spec_l00Rises.l0 k l0 a1 a2 0
theorem spec_l00Rises.mono_l : ∀ k, (∀ y0 y1 y2 y3, LeO (spec_l00Rises.l0 k y0 y1 y2 y3) (spec_l00Rises.l0 (k + 1) y0 y1 y2 y3))
 | 0 => fun _ _ _ _ r h => by simp [spec_l00Rises.l0] at h
 | k + 1 => by
  have ih0 := spec_l00Rises.mono_l k
  ·intro y0 y1 y2 y3
   unfold spec_l00Rises.l0
   repeat' first
   | (with_reducible exact ih0 _ _ _ _)
   | (with_reducible exact LeO.refl _)
   | (with_reducible exact LeO.none _)
   | (with_reducible refine LeO.ite ?_ ?_)
   | (with_reducible refine LeO.bind ?_ (fun _ => ?_))
   | exact ih0 _ _ _ _
   | exact LeO.none _
   | refine LeO.ite ?_ ?_
   | refine LeO.bind ?_ (fun _ => ?_)
theorem spec_l00Rises.mono : ∀ a0 a1 a2 k, LeO (spec_l00Rises.f k a0 a1 a2) (spec_l00Rises.f (k + 1) a0 a1 a2) := by
 intro a0 a1 a2 k
 have ih0 := spec_l00Rises.mono_l k
 unfold spec_l00Rises.f
 repeat' first
   | (with_reducible exact ih0 _ _ _ _)
   | (with_reducible exact LeO.refl _)
   | (with_reducible exact LeO.none _)
   | (with_reducible refine LeO.ite ?_ ?_)
   | (with_reducible refine LeO.bind ?_ (fun _ => ?_))
   | exact ih0 _ _ _ _
   | exact LeO.none _
   | refine LeO.ite ?_ ?_
   | refine LeO.bind ?_ (fun _ => ?_)
set_option maxHeartbeats 8000000 in
set_option maxRecDepth 100000 in
theorem spec_l00Rises.calls (k : Nat) (A0 : Option Addr) (c0 : Nat) (l0 : List Int) (a1 : Int) (a2 : Int) (r : Bool) (w : World) (hr0 : Kd.C (Kd.int .i64) w A0 l0.length l0) (hc0 : l0.length ≤ c0) (h : spec_l00Rises.f k l0 a1 a2 = some r) :
  Calls Try.prog 76 #[.slice A0 l0.length c0, .int .i64 a1, .int .i64 a2] w fun e w' => e = .returned (.bool r) ∧ Drawn0 w w' := by
 have HR0 := am hr0
 have HC0 := am hc0
 clear hr0 hc0
 have H : (spec_l00Rises.l0 k l0 a1 a2 0) = some r := h
 clear h
 have H' := am H
 clear H
 go_enter Try.func76, Try.ntmps76
 go_wp2
 repeat (go_quiet (fail); try go_wp2)
 go_loopg [7] k (fun kq v7 w' => ∃ (x7_1 : Int), v7 = .int .i64 x7_1 ∧ Aside0 (spec_l00Rises.l0 kq l0 a1 a2 x7_1 = some r) ∧ Aside0 (kq ≤ k) ∧ Drawn0 w w')
 case atStart => exact ⟨(0), (by first | rfl | (simp; done) | (simp [*]; done)), H', ⟨Nat.le_refl _⟩, by repeat (first | exact Drawn0.refl _ | apply Drawn0.step)⟩
 case round =>
  clear H'
  obtain ⟨x7_1, rfl, HA, HK1, ⟨m1, rfl⟩⟩ := hrel
  cases gk with
  | zero => exact absurd HA.out (by simp [spec_l00Rises.l0])
  | succ k1 =>
   have H := HA.out
   clear HA
   simp only [spec_l00Rises.l0] at H
   by_cases c4 : x7_1 < (l0.length : Int)
   ·rw [if_pos c4] at H
    have c4b0 : decide (x7_1 < (l0.length : Int)) = true := decide_eq_true c4
    clear c4
    by_cases c5 : 0 ≤ x7_1
    ·rw [if_pos c5] at H
     have c5b0 : decide (0 ≤ x7_1) = true := decide_eq_true c5
     clear c5
     replace H := Option.bind_eq_some_iff.mp H
     obtain ⟨t170, A60, H⟩ := H
     replace H : (if t170 = true then (if x7_1 > 0 then (if 0 ≤ (wrap64 (x7_1 - 1)) then (if (wrap64 (x7_1 - 1)) < (l0.length : Int) then (if (rd l0 (wrap64 (x7_1 - 1))) ≥ (rd l0 x7_1) then (some false) else (spec_l00Rises.l0 k1 l0 a1 a2 (wrap64 (x7_1 + 1)))) else (none)) else (none)) else (spec_l00Rises.l0 k1 l0 a1 a2 (wrap64 (x7_1 + 1)))) else (some false)) = some r := H
     have A6 := am A60
     clear A60
     by_cases c7 : t170 = true
     ·subst c7
      have H1 : (if x7_1 > 0 then (if 0 ≤ (wrap64 (x7_1 - 1)) then (if (wrap64 (x7_1 - 1)) < (l0.length : Int) then (if (rd l0 (wrap64 (x7_1 - 1))) ≥ (rd l0 x7_1) then (some false) else (spec_l00Rises.l0 k1 l0 a1 a2 (wrap64 (x7_1 + 1)))) else (none)) else (none)) else (spec_l00Rises.l0 k1 l0 a1 a2 (wrap64 (x7_1 + 1)))) = some r := by rw [if_pos rfl] at H; exact H
      clear H
      have H := H1
      clear H1
      by_cases c8 : x7_1 > 0
      ·rw [if_pos c8] at H
       have c8b0 : decide (0 < x7_1) = true := decide_eq_true c8
       clear c8
       obtain ⟨ji9, hji9⟩ : ∃ j_ : Int, (wrap64 (x7_1 - 1)) = j_ := ⟨_, rfl⟩
       replace H : (if 0 ≤ (ji9) then (if (ji9) < (l0.length : Int) then (if (rd l0 (ji9)) ≥ (rd l0 x7_1) then (some false) else (spec_l00Rises.l0 k1 l0 a1 a2 (wrap64 (x7_1 + 1)))) else (none)) else (none)) = some r := by first | (rw [hji9] at H; exact H) | (simp only [hji9] at H ⊢; exact H)
       (try rw [hji9] at A6)
       have hji9w : (IntKind.i64.wrap (x7_1 - 1)) = ji9 := (i64_w _).trans hji9
       by_cases c10 : 0 ≤ (ji9)
       ·rw [if_pos c10] at H
        have c10b0 : decide (0 ≤ (ji9)) = true := decide_eq_true c10
        clear c10
        by_cases c11 : (ji9) < (l0.length : Int)
        ·rw [if_pos c11] at H
         have c11b0 : decide ((ji9) < (l0.length : Int)) = true := decide_eq_true c11
         clear c11
         by_cases c12 : (rd l0 (ji9)) ≥ (rd l0 x7_1)
         ·rw [if_pos c12] at H
          have c12b0 : decide ((rd l0 x7_1) ≤ (rd l0 (ji9))) = true := decide_eq_true c12
          clear c12
          obtain rfl := Option.some.inj H
          have p169 : 0 ≤ (x7_1 : Int) := of_decide_eq_true (by first | (with_reducible assumption) | assumption)
          have q169 : x7_1 < (l0.length : Int) := of_decide_eq_true (by first | (with_reducible assumption) | assumption)
          obtain ⟨ad169, e169, hx169_0⟩ := Kd.at_int HR0.out x7_1 p169 q169
          cases e169
          replace p169 := eq_true p169
          replace q169 := eq_true q169
          try (have p171 : 0 ≤ ((ji9) : Int) := of_decide_eq_true (by first | (with_reducible assumption) | assumption); have q171 : (ji9) < (l0.length : Int) := of_decide_eq_true (by first | (with_reducible assumption) | assumption); obtain ⟨ad171, e171, hx171_0⟩ := Kd.at_int HR0.out (ji9) p171 q171; obtain rfl : ad169 = ad171 := (by injection e171); replace p171 := eq_true p171; replace q171 := eq_true q171; have p172 : 0 ≤ (x7_1 : Int) := of_decide_eq_true (by first | (with_reducible assumption) | assumption); have q172 : x7_1 < (l0.length : Int) := of_decide_eq_true (by first | (with_reducible assumption) | assumption); obtain ⟨ad172, e172, hx172_0⟩ := Kd.at_int HR0.out x7_1 p172 q172; obtain rfl : ad169 = ad172 := (by injection e172); replace p172 := eq_true p172; replace q172 := eq_true q172)
          go_wp2_with (first | (go_at_call 57; (with_reducible refine (spec_l00In.calls (rd l0 x7_1) a1 a2 true _ A6.out).mono ?_); rintro e w' ⟨rfl, ⟨nd, rfl⟩⟩; (try first | exact ⟨rfl, _, World.drewN_drewN _ _ _⟩ | exact ⟨rfl, _, Eq.trans (World.drewN_drewN _ _ _) (congrArg (World.drewN _) (Nat.add_assoc _ _ _))⟩); have p171 : 0 ≤ ((ji9) : Int) := of_decide_eq_true (by first | (with_reducible assumption) | assumption); have q171 : (ji9) < (l0.length : Int) := of_decide_eq_true (by first | (with_reducible assumption) | assumption); obtain ⟨ad171, e171, hx171_0⟩ := Kd.at_int HR0.out (ji9) p171 q171; obtain rfl : ad169 = ad171 := (by injection e171); replace p171 := eq_true p171; replace q171 := eq_true q171; have p172 : 0 ≤ (x7_1 : Int) := of_decide_eq_true (by first | (with_reducible assumption) | assumption); have q172 : x7_1 < (l0.length : Int) := of_decide_eq_true (by first | (with_reducible assumption) | assumption); obtain ⟨ad172, e172, hx172_0⟩ := Kd.at_int HR0.out x7_1 p172 q172; obtain rfl : ad169 = ad172 := (by injection e172); replace p172 := eq_true p172; replace q172 := eq_true q172))
          first | (have hz_ := q172; clear hz_) | (have p171 : 0 ≤ ((ji9) : Int) := of_decide_eq_true (by first | (with_reducible assumption) | assumption); have q171 : (ji9) < (l0.length : Int) := of_decide_eq_true (by first | (with_reducible assumption) | assumption); obtain ⟨ad171, e171, hx171_0⟩ := Kd.at_int HR0.out (ji9) p171 q171; obtain rfl : ad169 = ad171 := (by injection e171); replace p171 := eq_true p171; replace q171 := eq_true q171; have p172 : 0 ≤ (x7_1 : Int) := of_decide_eq_true (by first | (with_reducible assumption) | assumption); have q172 : x7_1 < (l0.length : Int) := of_decide_eq_true (by first | (with_reducible assumption) | assumption); obtain ⟨ad172, e172, hx172_0⟩ := Kd.at_int HR0.out x7_1 p172 q172; obtain rfl : ad169 = ad172 := (by injection e172); replace p172 := eq_true p172; replace q172 := eq_true q172) | skip
          repeat (go_quiet (first | (go_at_call 57; (with_reducible refine (spec_l00In.calls (rd l0 x7_1) a1 a2 true _ A6.out).mono ?_); rintro e w' ⟨rfl, ⟨nd, rfl⟩⟩; (try first | exact ⟨rfl, _, World.drewN_drewN _ _ _⟩ | exact ⟨rfl, _, Eq.trans (World.drewN_drewN _ _ _) (congrArg (World.drewN _) (Nat.add_assoc _ _ _))⟩))); try go_wp2_with (first | (go_at_call 57; (with_reducible refine (spec_l00In.calls (rd l0 x7_1) a1 a2 true _ A6.out).mono ?_); rintro e w' ⟨rfl, ⟨nd, rfl⟩⟩; (try first | exact ⟨rfl, _, World.drewN_drewN _ _ _⟩ | exact ⟨rfl, _, Eq.trans (World.drewN_drewN _ _ _) (congrArg (World.drewN _) (Nat.add_assoc _ _ _))⟩); have p171 : 0 ≤ ((ji9) : Int) := of_decide_eq_true (by first | (with_reducible assumption) | assumption); have q171 : (ji9) < (l0.length : Int) := of_decide_eq_true (by first | (with_reducible assumption) | assumption); obtain ⟨ad171, e171, hx171_0⟩ := Kd.at_int HR0.out (ji9) p171 q171; obtain rfl : ad169 = ad171 := (by injection e171); replace p171 := eq_true p171; replace q171 := eq_true q171; have p172 : 0 ≤ (x7_1 : Int) := of_decide_eq_true (by first | (with_reducible assumption) | assumption); have q172 : x7_1 < (l0.length : Int) := of_decide_eq_true (by first | (with_reducible assumption) | assumption); obtain ⟨ad172, e172, hx172_0⟩ := Kd.at_int HR0.out x7_1 p172 q172; obtain rfl : ad169 = ad172 := (by injection e172); replace p172 := eq_true p172; replace q172 := eq_true q172)))
          go_ret
          exact ⟨by first | rfl | (simp; done) | (simp only [← hji9] <;> (first | rfl | simp)) | (simp [*]; done), by repeat (first | exact Drawn0.refl _ | apply Drawn0.step)⟩
         ·rw [if_neg c12] at H
          have c12b0 : decide ((rd l0 x7_1) ≤ (rd l0 (ji9))) = false := decide_eq_false c12
          clear c12
          have H' := am H
          clear H
          have p169 : 0 ≤ (x7_1 : Int) := of_decide_eq_true (by first | (with_reducible assumption) | assumption)
          have q169 : x7_1 < (l0.length : Int) := of_decide_eq_true (by first | (with_reducible assumption) | assumption)
          obtain ⟨ad169, e169, hx169_0⟩ := Kd.at_int HR0.out x7_1 p169 q169
          cases e169
          replace p169 := eq_true p169
          replace q169 := eq_true q169
          try (have p171 : 0 ≤ ((ji9) : Int) := of_decide_eq_true (by first | (with_reducible assumption) | assumption); have q171 : (ji9) < (l0.length : Int) := of_decide_eq_true (by first | (with_reducible assumption) | assumption); obtain ⟨ad171, e171, hx171_0⟩ := Kd.at_int HR0.out (ji9) p171 q171; obtain rfl : ad169 = ad171 := (by injection e171); replace p171 := eq_true p171; replace q171 := eq_true q171; have p172 : 0 ≤ (x7_1 : Int) := of_decide_eq_true (by first | (with_reducible assumption) | assumption); have q172 : x7_1 < (l0.length : Int) := of_decide_eq_true (by first | (with_reducible assumption) | assumption); obtain ⟨ad172, e172, hx172_0⟩ := Kd.at_int HR0.out x7_1 p172 q172; obtain rfl : ad169 = ad172 := (by injection e172); replace p172 := eq_true p172; replace q172 := eq_true q172)
          go_wp2_with (first | (go_at_call 57; (with_reducible refine (spec_l00In.calls (rd l0 x7_1) a1 a2 true _ A6.out).mono ?_); rintro e w' ⟨rfl, ⟨nd, rfl⟩⟩; (try first | exact ⟨rfl, _, World.drewN_drewN _ _ _⟩ | exact ⟨rfl, _, Eq.trans (World.drewN_drewN _ _ _) (congrArg (World.drewN _) (Nat.add_assoc _ _ _))⟩); have p171 : 0 ≤ ((ji9) : Int) := of_decide_eq_true (by first | (with_reducible assumption) | assumption); have q171 : (ji9) < (l0.length : Int) := of_decide_eq_true (by first | (with_reducible assumption) | assumption); obtain ⟨ad171, e171, hx171_0⟩ := Kd.at_int HR0.out (ji9) p171 q171; obtain rfl : ad169 = ad171 := (by injection e171); replace p171 := eq_true p171; replace q171 := eq_true q171; have p172 : 0 ≤ (x7_1 : Int) := of_decide_eq_true (by first | (with_reducible assumption) | assumption); have q172 : x7_1 < (l0.length : Int) := of_decide_eq_true (by first | (with_reducible assumption) | assumption); obtain ⟨ad172, e172, hx172_0⟩ := Kd.at_int HR0.out x7_1 p172 q172; obtain rfl : ad169 = ad172 := (by injection e172); replace p172 := eq_true p172; replace q172 := eq_true q172))
          first | (have hz_ := q172; clear hz_) | (have p171 : 0 ≤ ((ji9) : Int) := of_decide_eq_true (by first | (with_reducible assumption) | assumption); have q171 : (ji9) < (l0.length : Int) := of_decide_eq_true (by first | (with_reducible assumption) | assumption); obtain ⟨ad171, e171, hx171_0⟩ := Kd.at_int HR0.out (ji9) p171 q171; obtain rfl : ad169 = ad171 := (by injection e171); replace p171 := eq_true p171; replace q171 := eq_true q171; have p172 : 0 ≤ (x7_1 : Int) := of_decide_eq_true (by first | (with_reducible assumption) | assumption); have q172 : x7_1 < (l0.length : Int) := of_decide_eq_true (by first | (with_reducible assumption) | assumption); obtain ⟨ad172, e172, hx172_0⟩ := Kd.at_int HR0.out x7_1 p172 q172; obtain rfl : ad169 = ad172 := (by injection e172); replace p172 := eq_true p172; replace q172 := eq_true q172) | skip
          repeat (go_quiet (first | (go_at_call 57; (with_reducible refine (spec_l00In.calls (rd l0 x7_1) a1 a2 true _ A6.out).mono ?_); rintro e w' ⟨rfl, ⟨nd, rfl⟩⟩; (try first | exact ⟨rfl, _, World.drewN_drewN _ _ _⟩ | exact ⟨rfl, _, Eq.trans (World.drewN_drewN _ _ _) (congrArg (World.drewN _) (Nat.add_assoc _ _ _))⟩))); try go_wp2_with (first | (go_at_call 57; (with_reducible refine (spec_l00In.calls (rd l0 x7_1) a1 a2 true _ A6.out).mono ?_); rintro e w' ⟨rfl, ⟨nd, rfl⟩⟩; (try first | exact ⟨rfl, _, World.drewN_drewN _ _ _⟩ | exact ⟨rfl, _, Eq.trans (World.drewN_drewN _ _ _) (congrArg (World.drewN _) (Nat.add_assoc _ _ _))⟩); have p171 : 0 ≤ ((ji9) : Int) := of_decide_eq_true (by first | (with_reducible assumption) | assumption); have q171 : (ji9) < (l0.length : Int) := of_decide_eq_true (by first | (with_reducible assumption) | assumption); obtain ⟨ad171, e171, hx171_0⟩ := Kd.at_int HR0.out (ji9) p171 q171; obtain rfl : ad169 = ad171 := (by injection e171); replace p171 := eq_true p171; replace q171 := eq_true q171; have p172 : 0 ≤ (x7_1 : Int) := of_decide_eq_true (by first | (with_reducible assumption) | assumption); have q172 : x7_1 < (l0.length : Int) := of_decide_eq_true (by first | (with_reducible assumption) | assumption); obtain ⟨ad172, e172, hx172_0⟩ := Kd.at_int HR0.out x7_1 p172 q172; obtain rfl : ad169 = ad172 := (by injection e172); replace p172 := eq_true p172; replace q172 := eq_true q172)))
          go_roundg k1
          case measure => have := HK1.out; omega
          case rel => exact ⟨(wrap64 (x7_1 + 1)), (by first | rfl | (simp; done) | (simp [*]; done)), H', ⟨by have := HK1.out; omega⟩, by repeat (first | exact Drawn0.refl _ | apply Drawn0.step)⟩
        ·rw [if_neg c11] at H
         exact absurd H (by simp)
       ·rw [if_neg c10] at H
        exact absurd H (by simp)
      ·rw [if_neg c8] at H
       have c8b0 : decide (0 < x7_1) = false := decide_eq_false c8
       clear c8
       have H' := am H
       clear H
       have p169 : 0 ≤ (x7_1 : Int) := of_decide_eq_true (by first | (with_reducible assumption) | assumption)
       have q169 : x7_1 < (l0.length : Int) := of_decide_eq_true (by first | (with_reducible assumption) | assumption)
       obtain ⟨ad169, e169, hx169_0⟩ := Kd.at_int HR0.out x7_1 p169 q169
       cases e169
       replace p169 := eq_true p169
       replace q169 := eq_true q169
       go_wp2_with (first | (go_at_call 57; (with_reducible refine (spec_l00In.calls (rd l0 x7_1) a1 a2 true _ A6.out).mono ?_); rintro e w' ⟨rfl, ⟨nd, rfl⟩⟩; (try first | exact ⟨rfl, _, World.drewN_drewN _ _ _⟩ | exact ⟨rfl, _, Eq.trans (World.drewN_drewN _ _ _) (congrArg (World.drewN _) (Nat.add_assoc _ _ _))⟩)))
       repeat (go_quiet (first | (go_at_call 57; (with_reducible refine (spec_l00In.calls (rd l0 x7_1) a1 a2 true _ A6.out).mono ?_); rintro e w' ⟨rfl, ⟨nd, rfl⟩⟩; (try first | exact ⟨rfl, _, World.drewN_drewN _ _ _⟩ | exact ⟨rfl, _, Eq.trans (World.drewN_drewN _ _ _) (congrArg (World.drewN _) (Nat.add_assoc _ _ _))⟩))); try go_wp2_with (first | (go_at_call 57; (with_reducible refine (spec_l00In.calls (rd l0 x7_1) a1 a2 true _ A6.out).mono ?_); rintro e w' ⟨rfl, ⟨nd, rfl⟩⟩; (try first | exact ⟨rfl, _, World.drewN_drewN _ _ _⟩ | exact ⟨rfl, _, Eq.trans (World.drewN_drewN _ _ _) (congrArg (World.drewN _) (Nat.add_assoc _ _ _))⟩))))
       go_roundg k1
       case measure => have := HK1.out; omega
       case rel => exact ⟨(wrap64 (x7_1 + 1)), (by first | rfl | (simp; done) | (simp [*]; done)), H', ⟨by have := HK1.out; omega⟩, by repeat (first | exact Drawn0.refl _ | apply Drawn0.step)⟩
     ·replace c7 := Bool.eq_false_iff.mpr c7
      subst c7
      have H1 : (some false) = some r := by rw [if_neg (show ¬ (false = true) by decide)] at H; exact H
      clear H
      have H := H1
      clear H1
      obtain rfl := Option.some.inj H
      have p169 : 0 ≤ (x7_1 : Int) := of_decide_eq_true (by first | (with_reducible assumption) | assumption)
      have q169 : x7_1 < (l0.length : Int) := of_decide_eq_true (by first | (with_reducible assumption) | assumption)
      obtain ⟨ad169, e169, hx169_0⟩ := Kd.at_int HR0.out x7_1 p169 q169
      cases e169
      replace p169 := eq_true p169
      replace q169 := eq_true q169
      go_wp2_with (first | (go_at_call 57; (with_reducible refine (spec_l00In.calls (rd l0 x7_1) a1 a2 false _ A6.out).mono ?_); rintro e w' ⟨rfl, ⟨nd, rfl⟩⟩; (try first | exact ⟨rfl, _, World.drewN_drewN _ _ _⟩ | exact ⟨rfl, _, Eq.trans (World.drewN_drewN _ _ _) (congrArg (World.drewN _) (Nat.add_assoc _ _ _))⟩)))
      repeat (go_quiet (first | (go_at_call 57; (with_reducible refine (spec_l00In.calls (rd l0 x7_1) a1 a2 false _ A6.out).mono ?_); rintro e w' ⟨rfl, ⟨nd, rfl⟩⟩; (try first | exact ⟨rfl, _, World.drewN_drewN _ _ _⟩ | exact ⟨rfl, _, Eq.trans (World.drewN_drewN _ _ _) (congrArg (World.drewN _) (Nat.add_assoc _ _ _))⟩))); try go_wp2_with (first | (go_at_call 57; (with_reducible refine (spec_l00In.calls (rd l0 x7_1) a1 a2 false _ A6.out).mono ?_); rintro e w' ⟨rfl, ⟨nd, rfl⟩⟩; (try first | exact ⟨rfl, _, World.drewN_drewN _ _ _⟩ | exact ⟨rfl, _, Eq.trans (World.drewN_drewN _ _ _) (congrArg (World.drewN _) (Nat.add_assoc _ _ _))⟩))))
      go_ret
      exact ⟨by first | rfl | (simp; done) | (simp [*]; done), by repeat (first | exact Drawn0.refl _ | apply Drawn0.step)⟩
    ·rw [if_neg c5] at H
     exact absurd H (by simp)
   ·rw [if_neg c4] at H
    have c4b0 : decide (x7_1 < (l0.length : Int)) = false := decide_eq_false c4
    clear c4
    obtain rfl := Option.some.inj H
    go_wp2
    repeat (go_quiet (fail); try go_wp2)
    go_ret
    exact ⟨by first | rfl | (simp; done) | (simp [*]; done), by repeat (first | exact Drawn0.refl _ | apply Drawn0.step)⟩

end Go.Proofs.Ythphhklbliambaa.MFnExactPowerLoss
