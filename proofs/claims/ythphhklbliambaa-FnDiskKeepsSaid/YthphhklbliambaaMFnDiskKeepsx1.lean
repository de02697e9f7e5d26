-- Written by a program of this session (wip/tools/myprint.py) over the kit's print: it is not the kit's print.
import Derived.Test.YthphhklbliambaaExtra
import Derived.Test.YthphhklbliambaaMFnDiskKeepsx0
namespace Go.Proofs.Ythphhklbliambaa.MFnDiskKeeps
open Go.RowKit Go.Proofs.YthphhklbliambaaW.PrintWords Go.Proofs.YthphhklbliambaaW.PrintLast Go.Proofs.YthphhklbliambaaW.PrintMore
open List renaming setIfInBounds_toArray → sit, set_cons_zero → scz, set_cons_succ → scs, map_toArray → mta, map_cons → mco, map_nil → mni, length_drop → lnd, length_take → lnt
open World renaming block_lt_of_cell? → blc
attribute [local go_sem] max2_int min2_int max_two min_two max_three min_three max_four min_four   -- for this text's walks alone
set_option linter.unusedVariables false
set_option linter.unusedSimpArgs false

/-! ### spec_l00In: function 57 -/
def spec_l00In.f (a0 : Int) (a1 : Int) (a2 : Int) : Option (Bool) := if a0 ≥ a1 then (some (decide (a0 ≤ a2))) else (some false)
set_option maxHeartbeats 8000000 in
set_option maxRecDepth 100000 in
theorem spec_l00In.calls (a0 : Int) (a1 : Int) (a2 : Int) (r : Bool) (w : World) (h : spec_l00In.f a0 a1 a2 = some r) :
  Calls Try.prog 57 #[.int .i64 a0, .int .i64 a1, .int .i64 a2] w fun e w' => e = .returned (.bool r) ∧ Drawn0 w w' := by
 have H : (if a0 ≥ a1 then (some (decide (a0 ≤ a2))) else (some false)) = some r := h
 clear h
 by_cases c4 : a0 ≥ a1
 ·rw [if_pos c4] at H
  have c4b0 : decide (a1 ≤ a0) = true := decide_eq_true c4
  clear c4
  obtain rfl := Option.some.inj H
  go_enter Try.func57, Try.ntmps57
  go_wp2
  go_ret
  exact ⟨by first | rfl | (simp; done) | (simp [*]; done), by repeat (first | exact Drawn0.refl _ | apply Drawn0.step)⟩
 ·rw [if_neg c4] at H
  have c4b0 : decide (a1 ≤ a0) = false := decide_eq_false c4
  clear c4
  obtain rfl := Option.some.inj H
  go_enter Try.func57, Try.ntmps57
  go_wp2
  go_ret
  exact ⟨by first | rfl | (simp; done) | (simp [*]; done), by repeat (first | exact Drawn0.refl _ | apply Drawn0.step)⟩

/-! ### spec_DiskOk: function 16 -/
mutual
def spec_DiskOk.j0 : Nat → Int → Bool → List ByteArray → List (S55) → Option (Bool)
 | 0, _, _, _, _ => none
 | k + 1, x3, x20, x102000, x102001 => if x20 = true then (some false) else (spec_DiskOk.l0 k x3 0 x102000 x102001)
def spec_DiskOk.l0 : Nat → Int → Int → List ByteArray → List (S55) → Option (Bool)
 | 0, _, _, _, _ => none
 | k + 1, x3, x4, x102000, x102001 => if x4 < (x102000.length : Int) then (if 0 ≤ x4 then (if ((rdOf ByteArray.empty x102000 x4).size : Int) = 64 then (spec_DiskOk.l0 k x3 (wrap64 (x4 + 1)) x102000 x102001) else (some false)) else (none)) else (spec_DiskOk.l1 k x3 0 x102000 x102001)
def spec_DiskOk.l1 : Nat → Int → Int → List ByteArray → List (S55) → Option (Bool)
 | 0, _, _, _, _ => none
 | k + 1, x3, x5, x102000, x102001 => if x5 < (x102001.length : Int) then (if 0 ≤ x5 then ((spec_l00In.f ((rd_T55 x102001 x5).f0) 0 (wrap64 (x3 - 1))).bind fun t104 => (if t104 = true then (if (((rd_T55 x102001 x5).f1).size : Int) = 64 then (spec_DiskOk.l1 k x3 (wrap64 (x5 + 1)) x102000 x102001) else (some false)) else (some false))) else (none)) else (some true)
end
def spec_DiskOk.f (k : Nat) (l0_0 : List ByteArray) (l0_1 : List (S55)) : Option (Bool) := if (l0_0.length : Int) < 1 then (spec_DiskOk.j0 k (l0_0.length : Int) true l0_0 l0_1) else (if (l0_0.length : Int) > 1200 then (spec_DiskOk.j0 k (l0_0.length : Int) true l0_0 l0_1) else (spec_DiskOk.j0 k (l0_0.length : Int) (decide ((l0_1.length : Int) > 600)) l0_0 l0_1))
theorem spec_DiskOk.mono_l : ∀ k, (∀ y0 y1 y2 y3, LeO (spec_DiskOk.j0 k y0 y1 y2 y3) (spec_DiskOk.j0 (k + 1) y0 y1 y2 y3)) ∧ (∀ y0 y1 y2 y3, LeO (spec_DiskOk.l0 k y0 y1 y2 y3) (spec_DiskOk.l0 (k + 1) y0 y1 y2 y3)) ∧ (∀ y0 y1 y2 y3, LeO (spec_DiskOk.l1 k y0 y1 y2 y3) (spec_DiskOk.l1 (k + 1) y0 y1 y2 y3))
 | 0 => ⟨fun _ _ _ _ r h => by simp [spec_DiskOk.j0] at h, fun _ _ _ _ r h => by simp [spec_DiskOk.l0] at h, fun _ _ _ _ r h => by simp [spec_DiskOk.l1] at h⟩
 | k + 1 => by
  obtain ⟨ih0, ih1, ih2⟩ := spec_DiskOk.mono_l k
  refine ⟨?_, ?_, ?_⟩
  ·intro y0 y1 y2 y3
   unfold spec_DiskOk.j0
   repeat' first
   | (with_reducible exact ih0 _ _ _ _)
   | (with_reducible exact ih1 _ _ _ _)
   | (with_reducible exact ih2 _ _ _ _)
   | (with_reducible exact LeO.refl _)
   | (with_reducible exact LeO.none _)
   | (with_reducible refine LeO.ite ?_ ?_)
   | (with_reducible refine LeO.bind ?_ (fun _ => ?_))
   | exact ih0 _ _ _ _
   | exact ih1 _ _ _ _
   | exact ih2 _ _ _ _
   | exact LeO.none _
   | refine LeO.ite ?_ ?_
   | refine LeO.bind ?_ (fun _ => ?_)
  ·intro y0 y1 y2 y3
   unfold spec_DiskOk.l0
   repeat' first
   | (with_reducible exact ih0 _ _ _ _)
   | (with_reducible exact ih1 _ _ _ _)
   | (with_reducible exact ih2 _ _ _ _)
   | (with_reducible exact LeO.refl _)
   | (with_reducible exact LeO.none _)
   | (with_reducible refine LeO.ite ?_ ?_)
   | (with_reducible refine LeO.bind ?_ (fun _ => ?_))
   | exact ih0 _ _ _ _
   | exact ih1 _ _ _ _
   | exact ih2 _ _ _ _
   | exact LeO.none _
   | refine LeO.ite ?_ ?_
   | refine LeO.bind ?_ (fun _ => ?_)
  ·intro y0 y1 y2 y3
   unfold spec_DiskOk.l1
   repeat' first
   | (with_reducible exact ih0 _ _ _ _)
   | (with_reducible exact ih1 _ _ _ _)
   | (with_reducible exact ih2 _ _ _ _)
   | (with_reducible exact LeO.refl _)
   | (with_reducible exact LeO.none _)
   | (with_reducible refine LeO.ite ?_ ?_)
   | (with_reducible refine LeO.bind ?_ (fun _ => ?_))
   | exact ih0 _ _ _ _
   | exact ih1 _ _ _ _
   | exact ih2 _ _ _ _
   | exact LeO.none _
   | refine LeO.ite ?_ ?_
   | refine LeO.bind ?_ (fun _ => ?_)
theorem spec_DiskOk.mono : ∀ a0 a1 k, LeO (spec_DiskOk.f k a0 a1) (spec_DiskOk.f (k + 1) a0 a1) := by
 intro a0 a1 k
 obtain ⟨ih0, ih1, ih2⟩ := spec_DiskOk.mono_l k
 unfold spec_DiskOk.f
 repeat' first
   | (with_reducible exact ih0 _ _ _ _)
   | (with_reducible exact ih1 _ _ _ _)
   | (with_reducible exact ih2 _ _ _ _)
   | (with_reducible exact LeO.refl _)
   | (with_reducible exact LeO.none _)
   | (with_reducible refine LeO.ite ?_ ?_)
   | (with_reducible refine LeO.bind ?_ (fun _ => ?_))
   | exact ih0 _ _ _ _
   | exact ih1 _ _ _ _
   | exact ih2 _ _ _ _
   | exact LeO.none _
   | refine LeO.ite ?_ ?_
   | refine LeO.bind ?_ (fun _ => ?_)
set_option maxHeartbeats 8000000 in
set_option maxRecDepth 100000 in
theorem spec_DiskOk.calls (k : Nat) (A0_0 : Option Addr) (c0_0 : Nat) (l0_0 : List ByteArray) (A0_1 : Option Addr) (c0_1 : Nat) (l0_1 : List (S55)) (r : Bool) (w : World) (hr0_0 : Kd.C Kd.string w A0_0 l0_0.length l0_0) (hc0_0 : l0_0.length ≤ c0_0) (hr0_1 : Kd.C k55 w A0_1 l0_1.length l0_1) (hc0_1 : l0_1.length ≤ c0_1) (h : spec_DiskOk.f k l0_0 l0_1 = some r) :
  Calls Try.prog 16 #[.agg #[.slice A0_0 l0_0.length c0_0, .slice A0_1 l0_1.length c0_1]] w fun e w' => e = .returned (.bool r) ∧ Below w.heap.size w w' := by
 have hu30 := Try.underlying30
 have HR0_0 := am hr0_0
 have HC0_0 := am hc0_0
 clear hr0_0 hc0_0
 have HR0_1 := am hr0_1
 have HC0_1 := am hc0_1
 clear hr0_1 hc0_1
 have HB := am (Below.refl w.heap.size w)
 have H : (if (l0_0.length : Int) < 1 then (spec_DiskOk.j0 k (l0_0.length : Int) true l0_0 l0_1) else (if (l0_0.length : Int) > 1200 then (spec_DiskOk.j0 k (l0_0.length : Int) true l0_0 l0_1) else (spec_DiskOk.j0 k (l0_0.length : Int) (decide ((l0_1.length : Int) > 600)) l0_0 l0_1))) = some r := h
 clear h
 have HC2 := am H
 clear H
 go_enter Try.func16, Try.ntmps16
 go_upto_region 2 with (first | ((with_reducible refine gate_dst (N := 1) rfl ?_); (try (refine gate_guard (by rfl) ?_; dsimp only)); refine box_event ?hg (N := 1) ?hd (cs := #[.slice A0_0 l0_0.length c0_0, .slice A0_1 l0_1.length c0_1]) (t := 30) ?hr ?_; (case hd => rfl); (case hg => rfl); (case hr => first | (go_simp; done) | (go_simp; rfl)); intro gb101 hg w3 hbox hb; have n0_ := am (below_step (by repeat (first | (with_reducible first | exact HB.out | apply bal | apply pdn | apply bd1) | exact HB.out)) hb); have n1_ := am (hbox); have n2_ := am ((by rw [hg]; exact (below_size (by repeat (first | (with_reducible first | exact HB.out | apply bal | apply pdn | apply bd1) | exact HB.out))) : w.heap.size ≤ gb101)); have n3_ := am ((by rw [hg]; exact (below_size (by repeat (first | (with_reducible first | exact HB.out | apply bal | apply pdn | apply bd1) | exact HB.out))) : w.heap.size ≤ gb101)); clear HB; have HB := n0_; have BK101 := n1_; have GW101 := n2_; have GE101 := n3_; clear n0_ n1_ n2_ n3_; clear hb hbox hg; have hcz4_0 : w3.cell? ⟨gb101, 0, none⟩ = some (.slice A0_0 l0_0.length c0_0) := (kce BK101.out 0).trans rfl; have hcz4_1 : w3.cell? ⟨gb101, 1, none⟩ = some (.slice A0_1 l0_1.length c0_1) := (kce BK101.out 1).trans rfl; have hfz4_0 := kfr BK101.out 0; have hfz4_1 := kfr BK101.out 1))
 (try simp only [Act.put, sit, scz, scs])
 go_cut [20] (fun v20 wc => ∃ (kq : Nat) (x20_1 : Bool), v20 = .bool x20_1 ∧ Aside0 (spec_DiskOk.j0 kq (l0_0.length : Int) x20_1 l0_0 l0_1 = some r) ∧ Aside0 (kq ≤ k) ∧ Aside0 (wc.heap[gb101]? = some (.cells #[(.slice A0_0 l0_0.length c0_0), (.slice A0_1 l0_1.length c0_1)] 30 (0, 0))) ∧ Aside0 (Below w.heap.size w wc))
 case first =>
  have H := HC2.out
  clear HC2
  by_cases c5 : (l0_0.length : Int) < 1
  ·rw [if_pos c5] at H
   have c5b0 : decide ((l0_0.length : Int) < 1) = true := decide_eq_true c5
   have c5b1 : decide (l0_0.length < 1) = true := decide_eq_true (by omega)
   clear c5
   (first | rw [c5b0] | (simp only [i64_w, i32_w]; rw [c5b0]) | skip)
   have H' := am H
   clear H
   go_wp2
   go_meet
   case rel => exact ⟨_, (true), (by first | rfl | (simp; done) | (simp [*]; done)), H', ⟨by first | omega | exact Nat.le_refl _⟩, ⟨by (with_reducible repeat (first | apply kdn | apply kdr | apply kal)); exact BK101.out⟩, ⟨by repeat (first | (with_reducible first | exact HB.out | apply bal | apply pdn | apply bd1 | refine bst ?_ GE101.out) | exact HB.out)⟩⟩
  ·rw [if_neg c5] at H
   have c5b0 : decide ((l0_0.length : Int) < 1) = false := decide_eq_false c5
   have c5b1 : decide (l0_0.length < 1) = false := decide_eq_false (by omega)
   clear c5
   (first | rw [c5b0] | (simp only [i64_w, i32_w]; rw [c5b0]) | skip)
   by_cases c6 : (l0_0.length : Int) > 1200
   ·rw [if_pos c6] at H
    have c6b0 : decide (1200 < (l0_0.length : Int)) = true := decide_eq_true c6
    have c6b1 : decide (1200 < l0_0.length) = true := decide_eq_true (by omega)
    clear c6
    have H' := am H
    clear H
    go_wp2
    go_meet
    case rel => exact ⟨_, (true), (by first | rfl | (simp; done) | (simp [*]; done)), H', ⟨by first | omega | exact Nat.le_refl _⟩, ⟨by (with_reducible repeat (first | apply kdn | apply kdr | apply kal)); exact BK101.out⟩, ⟨by repeat (first | (with_reducible first | exact HB.out | apply bal | apply pdn | apply bd1 | refine bst ?_ GE101.out) | exact HB.out)⟩⟩
   ·rw [if_neg c6] at H
    have c6b0 : decide (1200 < (l0_0.length : Int)) = false := decide_eq_false c6
    have c6b1 : decide (1200 < l0_0.length) = false := decide_eq_false (by omega)
    clear c6
    have H' := am H
    clear H
    have hcz7_0 : w3.cell? ⟨gb101, 0, none⟩ = some (.slice A0_0 l0_0.length c0_0) := (kce BK101.out 0).trans rfl
    have hcz7_1 : w3.cell? ⟨gb101, 1, none⟩ = some (.slice A0_1 l0_1.length c0_1) := (kce BK101.out 1).trans rfl
    have hfz7_0 := kfr BK101.out 0
    have hfz7_1 := kfr BK101.out 1
    go_wp2
    go_meet
    case rel => exact ⟨_, (decide ((l0_1.length : Int) > 600)), (by first | rfl | (simp; done) | (simp [*]; done)), H', ⟨by first | omega | exact Nat.le_refl _⟩, ⟨by (with_reducible repeat (first | apply kdn | apply kdr | apply kal)); exact BK101.out⟩, ⟨by repeat (first | (with_reducible first | exact HB.out | apply bal | apply pdn | apply bd1 | refine bst ?_ GE101.out) | exact HB.out)⟩⟩
 case rest =>
  clear HC2
  obtain ⟨kq, x20_1, rfl, HA, HJ1, BK101, HB⟩ := hcut
  cases kq with
  | zero => exact absurd HA.out (by simp [spec_DiskOk.j0])
  | succ kj1 =>
   have H := HA.out
   clear HA
   simp only [spec_DiskOk.j0] at H
   by_cases c8 : x20_1 = true
   ·subst c8
    have H1 : (some false) = some r := by rw [if_pos rfl] at H; exact H
    clear H
    have H := H1
    clear H1
    obtain rfl := Option.some.inj H
    go_wp2
    go_ret
    exact ⟨by first | rfl | (simp [errW_none, errW_some] <;> rfl) | (simp [*, errW_none, errW_some] <;> rfl), by repeat (first | (with_reducible first | exact HB.out | apply bal | apply pdn | apply bd1 | refine bst ?_ GE101.out) | exact HB.out)⟩
   ·replace c8 := Bool.eq_false_iff.mpr c8
    subst c8
    have H1 : (spec_DiskOk.l0 kj1 (l0_0.length : Int) 0 l0_0 l0_1) = some r := by rw [if_neg (show ¬ (false = true) by decide)] at H; exact H
    clear H
    have H := H1
    clear H1
    have H' := am H
    clear H
    go_wp2
    go_loopg [4] kj1 (fun kq v4 w' => ∃ (x4_2 : Int), v4 = .int .i64 x4_2 ∧ Aside0 (spec_DiskOk.l0 kq (l0_0.length : Int) x4_2 l0_0 l0_1 = some r) ∧ Aside0 (kq ≤ kj1) ∧ Aside0 (w'.heap[gb101]? = some (.cells #[(.slice A0_0 l0_0.length c0_0), (.slice A0_1 l0_1.length c0_1)] 30 (0, 0))) ∧ Aside0 (Below w.heap.size w w'))
    case atStart => exact ⟨(0), (by first | rfl | (simp; done) | (simp [*]; done)), H', ⟨Nat.le_refl _⟩, ⟨by (with_reducible repeat (first | apply kdn | apply kdr | apply kal)); exact BK101.out⟩, ⟨by repeat (first | (with_reducible first | exact HB.out | apply bal | apply pdn | apply bd1 | refine bst ?_ GE101.out) | exact HB.out)⟩⟩
    case round =>
     clear H'
     obtain ⟨x4_2, rfl, HA, HK2, BK101, HB⟩ := hrel
     cases gk with
     | zero => exact absurd HA.out (by simp [spec_DiskOk.l0])
     | succ k2 =>
      have H := HA.out
      clear HA
      simp only [spec_DiskOk.l0] at H
      by_cases c9 : x4_2 < (l0_0.length : Int)
      ·rw [if_pos c9] at H
       have c9b0 : decide (x4_2 < (l0_0.length : Int)) = true := decide_eq_true c9
       clear c9
       by_cases c10 : 0 ≤ x4_2
       ·rw [if_pos c10] at H
        have c10b0 : decide (0 ≤ x4_2) = true := decide_eq_true c10
        clear c10
        by_cases c11 : ((rdOf ByteArray.empty l0_0 x4_2).size : Int) = 64
        ·rw [if_pos c11] at H
         have c11b0 : (((rdOf ByteArray.empty l0_0 x4_2).size : Int) == 64) = true := beq_iff_eq.mpr c11
         have c11b1 : (((rdOf ByteArray.empty l0_0 x4_2).size : Int) != 64) = false := bne_eq_false_iff_eq.mpr c11
         clear c11
         have H' := am H
         clear H
         have hcz12_0 : wr.cell? ⟨gb101, 0, none⟩ = some (.slice A0_0 l0_0.length c0_0) := (kce BK101.out 0).trans rfl
         have hcz12_1 : wr.cell? ⟨gb101, 1, none⟩ = some (.slice A0_1 l0_1.length c0_1) := (kce BK101.out 1).trans rfl
         have hfz12_0 := kfr BK101.out 0
         have hfz12_1 := kfr BK101.out 1
         have p102 : 0 ≤ (x4_2 : Int) := of_decide_eq_true (by first | (with_reducible assumption) | assumption)
         have q102 : x4_2 < (l0_0.length : Int) := of_decide_eq_true (by first | (with_reducible assumption) | assumption)
         obtain ⟨ad102, e102, hx102_0⟩ := Kd.at_string HR0_0.out x4_2 p102 q102
         cases e102
         replace hx102_0 := (HB.out.cell (blc w _ hx102_0)).trans hx102_0
         replace p102 := eq_true p102
         replace q102 := eq_true q102
         go_wp2
         go_roundg k2
         case measure => have := HJ1.out; have := HK2.out; omega
         case rel => exact ⟨(wrap64 (x4_2 + 1)), (by first | rfl | (simp; done) | (simp [*]; done)), H', ⟨by have := HJ1.out; have := HK2.out; omega⟩, ⟨by (with_reducible repeat (first | apply kdn | apply kdr | apply kal)); exact BK101.out⟩, ⟨by repeat (first | (with_reducible first | exact HB.out | apply bal | apply pdn | apply bd1 | refine bst ?_ GE101.out) | exact HB.out)⟩⟩
        ·rw [if_neg c11] at H
         have c11b0 : (((rdOf ByteArray.empty l0_0 x4_2).size : Int) == 64) = false := beq_eq_false_iff_ne.mpr c11
         have c11b1 : (((rdOf ByteArray.empty l0_0 x4_2).size : Int) != 64) = true := bne_iff_ne.mpr c11
         obtain rfl := Option.some.inj H
         have hcz13_0 : wr.cell? ⟨gb101, 0, none⟩ = some (.slice A0_0 l0_0.length c0_0) := (kce BK101.out 0).trans rfl
         have hcz13_1 : wr.cell? ⟨gb101, 1, none⟩ = some (.slice A0_1 l0_1.length c0_1) := (kce BK101.out 1).trans rfl
         have hfz13_0 := kfr BK101.out 0
         have hfz13_1 := kfr BK101.out 1
         have p102 : 0 ≤ (x4_2 : Int) := of_decide_eq_true (by first | (with_reducible assumption) | assumption)
         have q102 : x4_2 < (l0_0.length : Int) := of_decide_eq_true (by first | (with_reducible assumption) | assumption)
         obtain ⟨ad102, e102, hx102_0⟩ := Kd.at_string HR0_0.out x4_2 p102 q102
         cases e102
         replace hx102_0 := (HB.out.cell (blc w _ hx102_0)).trans hx102_0
         replace p102 := eq_true p102
         replace q102 := eq_true q102
         go_wp2
         go_ret
         exact ⟨by first | rfl | (simp [errW_none, errW_some] <;> rfl) | (simp [*, errW_none, errW_some] <;> rfl), by repeat (first | (with_reducible first | exact HB.out | apply bal | apply pdn | apply bd1 | refine bst ?_ GE101.out) | exact HB.out)⟩
       ·rw [if_neg c10] at H
        exact absurd H (by simp)
      ·rw [if_neg c9] at H
       have c9b0 : decide (x4_2 < (l0_0.length : Int)) = false := decide_eq_false c9
       clear c9
       have H' := am H
       clear H
       have hcz14_0 : wr.cell? ⟨gb101, 0, none⟩ = some (.slice A0_0 l0_0.length c0_0) := (kce BK101.out 0).trans rfl
       have hcz14_1 : wr.cell? ⟨gb101, 1, none⟩ = some (.slice A0_1 l0_1.length c0_1) := (kce BK101.out 1).trans rfl
       have hfz14_0 := kfr BK101.out 0
       have hfz14_1 := kfr BK101.out 1
       go_wp2
       go_loopg [5] k2 (fun kq v5 w' => ∃ (x5_3 : Int), v5 = .int .i64 x5_3 ∧ Aside0 (spec_DiskOk.l1 kq (l0_0.length : Int) x5_3 l0_0 l0_1 = some r) ∧ Aside0 (kq ≤ k2) ∧ Aside0 (w'.heap[gb101]? = some (.cells #[(.slice A0_0 l0_0.length c0_0), (.slice A0_1 l0_1.length c0_1)] 30 (0, 0))) ∧ Aside0 (Below w.heap.size w w'))
       case atStart => exact ⟨(0), (by first | rfl | (simp; done) | (simp [*]; done)), H', ⟨Nat.le_refl _⟩, ⟨by (with_reducible repeat (first | apply kdn | apply kdr | apply kal)); exact BK101.out⟩, ⟨by repeat (first | (with_reducible first | exact HB.out | apply bal | apply pdn | apply bd1 | refine bst ?_ GE101.out) | exact HB.out)⟩⟩
       case round =>
        clear H'
        obtain ⟨x5_3, rfl, HA, HK3, BK101, HB⟩ := hrel
        cases gk with
        | zero => exact absurd HA.out (by simp [spec_DiskOk.l1])
        | succ k3 =>
         have H := HA.out
         clear HA
         simp only [spec_DiskOk.l1] at H
         by_cases c15 : x5_3 < (l0_1.length : Int)
         ·rw [if_pos c15] at H
          have c15b0 : decide (x5_3 < (l0_1.length : Int)) = true := decide_eq_true c15
          clear c15
          by_cases c16 : 0 ≤ x5_3
          ·rw [if_pos c16] at H
           have c16b0 : decide (0 ≤ x5_3) = true := decide_eq_true c16
           clear c16
           replace H := Option.bind_eq_some_iff.mp H
           obtain ⟨t104, A170, H⟩ := H
           replace H : (if t104 = true then (if (((rd_T55 l0_1 x5_3).f1).size : Int) = 64 then (spec_DiskOk.l1 k3 (l0_0.length : Int) (wrap64 (x5_3 + 1)) l0_0 l0_1) else (some false)) else (some false)) = some r := H
           have A17 := am A170
           clear A170
           by_cases c18 : t104 = true
           ·subst c18
            have H1 : (if (((rd_T55 l0_1 x5_3).f1).size : Int) = 64 then (spec_DiskOk.l1 k3 (l0_0.length : Int) (wrap64 (x5_3 + 1)) l0_0 l0_1) else (some false)) = some r := by rw [if_pos rfl] at H; exact H
            clear H
            have H := H1
            clear H1
            by_cases c19 : (((rd_T55 l0_1 x5_3).f1).size : Int) = 64
            ·rw [if_pos c19] at H
             have c19b0 : ((((rd_T55 l0_1 x5_3).f1).size : Int) == 64) = true := beq_iff_eq.mpr c19
             have c19b1 : ((((rd_T55 l0_1 x5_3).f1).size : Int) != 64) = false := bne_eq_false_iff_eq.mpr c19
             clear c19
             have H' := am H
             clear H
             have hcz20_0 : wr.cell? ⟨gb101, 0, none⟩ = some (.slice A0_0 l0_0.length c0_0) := (kce BK101.out 0).trans rfl
             have hcz20_1 : wr.cell? ⟨gb101, 1, none⟩ = some (.slice A0_1 l0_1.length c0_1) := (kce BK101.out 1).trans rfl
             have hfz20_0 := kfr BK101.out 0
             have hfz20_1 := kfr BK101.out 1
             have p103 : 0 ≤ (x5_3 : Int) := of_decide_eq_true (by first | (with_reducible assumption) | assumption)
             have q103 : x5_3 < (l0_1.length : Int) := of_decide_eq_true (by first | (with_reducible assumption) | assumption)
             obtain ⟨ad103, e103, hx103_0, hx103_1⟩ := at_T55 HR0_1.out x5_3 p103 q103
             cases e103
             replace hx103_0 := (HB.out.cell (blc w _ hx103_0)).trans hx103_0
             replace hx103_1 := (HB.out.cell (blc w _ hx103_1)).trans hx103_1
             replace p103 := eq_true p103
             replace q103 := eq_true q103
             go_wp2_with (first | ((with_reducible refine gate_callee (f := 57) rfl ?_); refine goesL_ (some 50) rfl rfl Try.func57 (by kernel_rfl) rfl #[.int .i64 ((rd_T55 l0_1 x5_3).f0), .int .i64 0, .int .i64 (wrap64 ((l0_0.length : Int) - 1))] rfl (by (try simp only [mta, mco, mni]); first | done | rfl | (simp only [lnd, lnt]; rfl)) ?_; (with_reducible refine (spec_l00In.calls ((rd_T55 l0_1 x5_3).f0) 0 (wrap64 ((l0_0.length : Int) - 1)) true _ A17.out).mono ?_); rintro e w' ⟨rfl, ⟨nd, rfl⟩⟩; refine ⟨_, rfl, ?_⟩; have p105 : 0 ≤ (x5_3 : Int) := of_decide_eq_true (by first | (with_reducible assumption) | assumption); have q105 : x5_3 < (l0_1.length : Int) := of_decide_eq_true (by first | (with_reducible assumption) | assumption); obtain ⟨ad105, e105, hx105_0, hx105_1⟩ := at_T55 HR0_1.out x5_3 p105 q105; obtain rfl : ad103 = ad105 := (by injection e105); replace hx105_0 := (HB.out.cell (blc w _ hx105_0)).trans hx105_0; replace hx105_1 := (HB.out.cell (blc w _ hx105_1)).trans hx105_1; replace p105 := eq_true p105; replace q105 := eq_true q105))
             go_roundg k3
             case measure => have := HJ1.out; have := HK2.out; have := HK3.out; omega
             case rel => exact ⟨(wrap64 (x5_3 + 1)), (by first | rfl | (simp; done) | (simp [*]; done)), H', ⟨by have := HJ1.out; have := HK2.out; have := HK3.out; omega⟩, ⟨by (with_reducible repeat (first | apply kdn | apply kdr | apply kal)); exact BK101.out⟩, ⟨by repeat (first | (with_reducible first | exact HB.out | apply bal | apply pdn | apply bd1 | refine bst ?_ GE101.out) | exact HB.out)⟩⟩
            ·rw [if_neg c19] at H
             have c19b0 : ((((rd_T55 l0_1 x5_3).f1).size : Int) == 64) = false := beq_eq_false_iff_ne.mpr c19
             have c19b1 : ((((rd_T55 l0_1 x5_3).f1).size : Int) != 64) = true := bne_iff_ne.mpr c19
             obtain rfl := Option.some.inj H
             have hcz21_0 : wr.cell? ⟨gb101, 0, none⟩ = some (.slice A0_0 l0_0.length c0_0) := (kce BK101.out 0).trans rfl
             have hcz21_1 : wr.cell? ⟨gb101, 1, none⟩ = some (.slice A0_1 l0_1.length c0_1) := (kce BK101.out 1).trans rfl
             have hfz21_0 := kfr BK101.out 0
             have hfz21_1 := kfr BK101.out 1
             have p103 : 0 ≤ (x5_3 : Int) := of_decide_eq_true (by first | (with_reducible assumption) | assumption)
             have q103 : x5_3 < (l0_1.length : Int) := of_decide_eq_true (by first | (with_reducible assumption) | assumption)
             obtain ⟨ad103, e103, hx103_0, hx103_1⟩ := at_T55 HR0_1.out x5_3 p103 q103
             cases e103
             replace hx103_0 := (HB.out.cell (blc w _ hx103_0)).trans hx103_0
             replace hx103_1 := (HB.out.cell (blc w _ hx103_1)).trans hx103_1
             replace p103 := eq_true p103
             replace q103 := eq_true q103
             go_wp2_with (first | ((with_reducible refine gate_callee (f := 57) rfl ?_); refine goesL_ (some 50) rfl rfl Try.func57 (by kernel_rfl) rfl #[.int .i64 ((rd_T55 l0_1 x5_3).f0), .int .i64 0, .int .i64 (wrap64 ((l0_0.length : Int) - 1))] rfl (by (try simp only [mta, mco, mni]); first | done | rfl | (simp only [lnd, lnt]; rfl)) ?_; (with_reducible refine (spec_l00In.calls ((rd_T55 l0_1 x5_3).f0) 0 (wrap64 ((l0_0.length : Int) - 1)) true _ A17.out).mono ?_); rintro e w' ⟨rfl, ⟨nd, rfl⟩⟩; refine ⟨_, rfl, ?_⟩; have p105 : 0 ≤ (x5_3 : Int) := of_decide_eq_true (by first | (with_reducible assumption) | assumption); have q105 : x5_3 < (l0_1.length : Int) := of_decide_eq_true (by first | (with_reducible assumption) | assumption); obtain ⟨ad105, e105, hx105_0, hx105_1⟩ := at_T55 HR0_1.out x5_3 p105 q105; obtain rfl : ad103 = ad105 := (by injection e105); replace hx105_0 := (HB.out.cell (blc w _ hx105_0)).trans hx105_0; replace hx105_1 := (HB.out.cell (blc w _ hx105_1)).trans hx105_1; replace p105 := eq_true p105; replace q105 := eq_true q105))
             go_ret
             exact ⟨by first | rfl | (simp [errW_none, errW_some] <;> rfl) | (simp [*, errW_none, errW_some] <;> rfl), by repeat (first | (with_reducible first | exact HB.out | apply bal | apply pdn | apply bd1 | refine bst ?_ GE101.out) | exact HB.out)⟩
           ·replace c18 := Bool.eq_false_iff.mpr c18
            subst c18
            have H1 : (some false) = some r := by rw [if_neg (show ¬ (false = true) by decide)] at H; exact H
            clear H
            have H := H1
            clear H1
            obtain rfl := Option.some.inj H
            have hcz22_0 : wr.cell? ⟨gb101, 0, none⟩ = some (.slice A0_0 l0_0.length c0_0) := (kce BK101.out 0).trans rfl
            have hcz22_1 : wr.cell? ⟨gb101, 1, none⟩ = some (.slice A0_1 l0_1.length c0_1) := (kce BK101.out 1).trans rfl
            have hfz22_0 := kfr BK101.out 0
            have hfz22_1 := kfr BK101.out 1
            have p103 : 0 ≤ (x5_3 : Int) := of_decide_eq_true (by first | (with_reducible assumption) | assumption)
            have q103 : x5_3 < (l0_1.length : Int) := of_decide_eq_true (by first | (with_reducible assumption) | assumption)
            obtain ⟨ad103, e103, hx103_0, hx103_1⟩ := at_T55 HR0_1.out x5_3 p103 q103
            cases e103
            replace hx103_0 := (HB.out.cell (blc w _ hx103_0)).trans hx103_0
            replace hx103_1 := (HB.out.cell (blc w _ hx103_1)).trans hx103_1
            replace p103 := eq_true p103
            replace q103 := eq_true q103
            go_wp2_with (first | ((with_reducible refine gate_callee (f := 57) rfl ?_); refine goesL_ (some 50) rfl rfl Try.func57 (by kernel_rfl) rfl #[.int .i64 ((rd_T55 l0_1 x5_3).f0), .int .i64 0, .int .i64 (wrap64 ((l0_0.length : Int) - 1))] rfl (by (try simp only [mta, mco, mni]); first | done | rfl | (simp only [lnd, lnt]; rfl)) ?_; (with_reducible refine (spec_l00In.calls ((rd_T55 l0_1 x5_3).f0) 0 (wrap64 ((l0_0.length : Int) - 1)) false _ A17.out).mono ?_); rintro e w' ⟨rfl, ⟨nd, rfl⟩⟩; refine ⟨_, rfl, ?_⟩))
            go_ret
            exact ⟨by first | rfl | (simp [errW_none, errW_some] <;> rfl) | (simp [*, errW_none, errW_some] <;> rfl), by repeat (first | (with_reducible first | exact HB.out | apply bal | apply pdn | apply bd1 | refine bst ?_ GE101.out) | exact HB.out)⟩
          ·rw [if_neg c16] at H
           exact absurd H (by simp)
         ·rw [if_neg c15] at H
          have c15b0 : decide (x5_3 < (l0_1.length : Int)) = false := decide_eq_false c15
          clear c15
          obtain rfl := Option.some.inj H
          have hcz23_0 : wr.cell? ⟨gb101, 0, none⟩ = some (.slice A0_0 l0_0.length c0_0) := (kce BK101.out 0).trans rfl
          have hcz23_1 : wr.cell? ⟨gb101, 1, none⟩ = some (.slice A0_1 l0_1.length c0_1) := (kce BK101.out 1).trans rfl
          have hfz23_0 := kfr BK101.out 0
          have hfz23_1 := kfr BK101.out 1
          go_wp2
          go_ret
          exact ⟨by first | rfl | (simp [errW_none, errW_some] <;> rfl) | (simp [*, errW_none, errW_some] <;> rfl), by repeat (first | (with_reducible first | exact HB.out | apply bal | apply pdn | apply bd1 | refine bst ?_ GE101.out) | exact HB.out)⟩

/-! ### impl_between: function 60 -/
def impl_between.f (a0 : Int) (a1 : Int) (a2 : Int) : Option (Bool) := if a0 ≥ a1 then (some (decide (a0 ≤ a2))) else (some false)
set_option maxHeartbeats 8000000 in
set_option maxRecDepth 100000 in
theorem impl_between.calls (a0 : Int) (a1 : Int) (a2 : Int) (r : Bool) (w : World) (h : impl_between.f a0 a1 a2 = some r) :
  Calls Try.prog 60 #[.int .i64 a0, .int .i64 a1, .int .i64 a2] w fun e w' => e = .returned (.bool r) ∧ Drawn0 w w' := by
 have H : (if a0 ≥ a1 then (some (decide (a0 ≤ a2))) else (some false)) = some r := h
 clear h
 by_cases c4 : a0 ≥ a1
 ·rw [if_pos c4] at H
  have c4b0 : decide (a1 ≤ a0) = true := decide_eq_true c4
  clear c4
  obtain rfl := Option.some.inj H
  go_enter Try.func60, Try.ntmps60
  go_wp2
  go_ret
  exact ⟨by first | rfl | (simp; done) | (simp [*]; done), by repeat (first | exact Drawn0.refl _ | apply Drawn0.step)⟩
 ·rw [if_neg c4] at H
  have c4b0 : decide (a1 ≤ a0) = false := decide_eq_false c4
  clear c4
  obtain rfl := Option.some.inj H
  go_enter Try.func60, Try.ntmps60
  go_wp2
  go_ret
  exact ⟨by first | rfl | (simp; done) | (simp [*]; done), by repeat (first | exact Drawn0.refl _ | apply Drawn0.step)⟩

/-! ### impl_sectorOk: function 61 -/
def impl_sectorOk.f (a0 : ByteArray) : Option (Bool) := some ((a0.size : Int) == 64)
set_option maxHeartbeats 8000000 in
set_option maxRecDepth 100000 in
theorem impl_sectorOk.calls (a0 : ByteArray) (r : Bool) (w : World) (h : impl_sectorOk.f a0 = some r) :
  Calls Try.prog 61 #[.string a0] w fun e w' => e = .returned (.bool r) ∧ Drawn0 w w' := by
 have H : (some ((a0.size : Int) == 64)) = some r := h
 clear h
 obtain rfl := Option.some.inj H
 go_enter Try.func61, Try.ntmps61
 go_wp2
 go_ret
 exact ⟨by first | rfl | (simp; done) | (simp [*]; done), by repeat (first | exact Drawn0.refl _ | apply Drawn0.step)⟩

/-! ### impl_isIndex: function 64 -/
def impl_isIndex.f (a0 : Int) (a1 : Int) : Option (Bool) := (impl_between.f a0 0 (wrap64 (a1 - 1))).bind fun t106 => (some t106)
set_option maxHeartbeats 8000000 in
set_option maxRecDepth 100000 in
theorem impl_isIndex.calls (a0 : Int) (a1 : Int) (r : Bool) (w : World) (h : impl_isIndex.f a0 a1 = some r) :
  Calls Try.prog 64 #[.int .i64 a0, .int .i64 a1] w fun e w' => e = .returned (.bool r) ∧ Drawn0 w w' := by
 have H : ((impl_between.f a0 0 (wrap64 (a1 - 1))).bind fun t106 => (some t106)) = some r := h
 clear h
 replace H := Option.bind_eq_some_iff.mp H
 obtain ⟨t106, A30, H⟩ := H
 replace H : (some t106) = some r := H
 have A3 := am A30
 clear A30
 obtain rfl := Option.some.inj H
 go_enter Try.func64, Try.ntmps64
 go_wp2_with (first | ((with_reducible refine gate_callee (f := 60) rfl ?_); refine goesL_ (some 8) rfl rfl Try.func60 (by kernel_rfl) rfl #[.int .i64 a0, .int .i64 0, .int .i64 (wrap64 (a1 - 1))] rfl (by (try simp only [mta, mco, mni]); first | done | rfl | (simp only [lnd, lnt]; rfl)) ?_; (with_reducible refine (impl_between.calls a0 0 (wrap64 (a1 - 1)) t106 _ A3.out).mono ?_); rintro e w' ⟨rfl, ⟨nd, rfl⟩⟩; refine ⟨_, rfl, ?_⟩))
 go_ret
 exact ⟨by first | rfl | (simp; done) | (simp [*]; done), by repeat (first | exact Drawn0.refl _ | apply Drawn0.step)⟩

/-! ### impl_DiskOk: function 18 -/
set_option maxHeartbeats 4000000 in
set_option maxRecDepth 100000 in
theorem impl_DiskOk.index (b1 : Addr) (p : S55 → Bool) (A0 : Option Addr) (c0 : Nat) (l0 : List S55) (w : World) (hr0 : Kd.C k55 w A0 l0.length l0)
  (hp : ∀ (W : World) (x : S55) , Below w.heap.size w W → x ∈ l0 → Calls Try.prog 63 #[.agg #[.int .i64 x.f0, .string x.f1], .pointer (some b1)] W fun e w' => e = .returned (.bool (p x)) ∧ Below w.heap.size w w') :
  Calls Try.prog 104 #[.slice A0 l0.length c0, .func (.func 63) #[] #[.pointer (some b1)]] w fun e w' => e = .returned (.int .i64 (idxP p l0 0)) ∧ Below w.heap.size w w' := by
 have HR0 := am hr0
 have HP := am hp
 have hm : l0.length ≤ 9223372036854775807 := hr0.2.1
 clear hr0 hp
 go_enter Try.func104, Try.ntmps104
 go_wp2
 go_loopg [5, 8] l0.length (fun gg _ s8 wr => ∃ kk : Nat, kk ≤ l0.length ∧ l0.length - kk ≤ gg ∧ s8 = .int .i64 kk ∧ Aside0 (Below w.heap.size w wr) ∧ Aside0 (idxP p l0 0 = idxP p (l0.drop kk) kk))
 case atStart => exact ⟨0, Nat.zero_le _, by omega, rfl, ⟨Below.refl _ w⟩, ⟨rfl⟩⟩
 case round =>
  obtain ⟨kk, hkk, hg, rfl, BW, AI⟩ := hrel
  by_cases hlt : kk < l0.length
  ·have hltz : (kk : Int) < (l0.length : Int) := by omega
   obtain ⟨ad, e, hx0, hx1⟩ := at_T55 HR0.out (kk : Int) (by omega) hltz
   cases e
   rw [Int.toNat_natCast] at hx0
   replace hx0 := (BW.out.cell (blc w _ hx0)).trans hx0
   rw [Int.toNat_natCast] at hx1
   replace hx1 := (BW.out.cell (blc w _ hx1)).trans hx1
   have HE : Aside0 (rd_T55 l0 (kk : Int) = l0[kk]) := ⟨by simp [rd_T55, List.getD_eq_getElem?_getD, List.getElem?_eq_getElem hlt]⟩
   have hcall := HP.out wr (rd_T55 l0 (kk : Int))  BW.out (by rw [HE.out]; exact List.getElem_mem hlt)
   have HD := am (idxP_drop p l0 kk hlt)
   generalize rd_T55 l0 (kk : Int) = y at hx0 hx1 hcall HE
   cases hq : p y with
   | true =>
    rw [hq] at hcall
    have HQ := am hq
    clear hq
    go_wp2_with (go_at_call 63; refine hcall.mono ?_; rintro e w' ⟨rfl, hb'⟩)
    go_ret
    refine ⟨?_, hb'⟩
    rw [AI.out, HD.out, ← HE.out, if_pos HQ.out]
    rfl
   | false =>
    rw [hq] at hcall
    have HQ := am hq
    clear hq
    go_wp2_with (go_at_call 63; refine hcall.mono ?_; rintro e w' ⟨rfl, hb'⟩)
    go_roundg (l0.length - (kk + 1))
    case measure => omega
    case rel => exact ⟨kk + 1, by omega, by omega, by go_num, ⟨hb'⟩, ⟨by rw [AI.out, HD.out, ← HE.out, HQ.out]; rfl⟩⟩
  ·have hltz : ¬ (kk : Int) < (l0.length : Int) := by omega
   go_wp2
   go_ret
   refine ⟨?_, BW.out⟩
   rw [AI.out, List.drop_of_length_le (by omega)]
   rfl
set_option maxHeartbeats 2000000 in
theorem impl_DiskOk.contains (b1 : Addr) (p : S55 → Bool) (A0 : Option Addr) (c0 : Nat) (l0 : List S55) (w : World) (hr0 : Kd.C k55 w A0 l0.length l0)
  (hp : ∀ (W : World) (x : S55) , Below w.heap.size w W → x ∈ l0 → Calls Try.prog 63 #[.agg #[.int .i64 x.f0, .string x.f1], .pointer (some b1)] W fun e w' => e = .returned (.bool (p x)) ∧ Below w.heap.size w w') :
  Calls Try.prog 62 #[.slice A0 l0.length c0, .func (.func 63) #[] #[.pointer (some b1)]] w fun e w' => e = .returned (.bool (l0.any p)) ∧ Below w.heap.size w w' := by
 have HI := impl_DiskOk.index b1 p A0 c0 l0 w hr0 hp
 have HQ := am (idxP_dec p l0)
 clear hr0 hp
 generalize idxP p l0 0 = q at HI HQ
 generalize l0.any p = b at HQ
 go_enter Try.func62, Try.ntmps62
 go_wp2_with (go_at_call 104; refine HI.mono ?_; rintro e w' ⟨rfl, hb⟩)
 go_ret
 exact ⟨by rw [← HQ.out]; rfl, hb⟩
/-- A write that waits is one to a sector, of a sector's length. -/
def impl_DiskOk.wait (n : Nat) (p : S55) : Bool := decide (0 ≤ p.f0 ∧ p.f0 ≤ (n : Int) - 1) && ((p.f1.size : Int) == 64)
def impl_DiskOk.f (l0_0 : List ByteArray) (l0_1 : List S55) : Option Bool :=
 some (((decide ((1 : Int) ≤ (l0_0.length : Int) ∧ (l0_0.length : Int) ≤ 1200) && decide ((l0_1.length : Int) ≤ 600)) && l0_0.all fun s => ((s.size : Int) == 64)) && !l0_1.any fun p => !impl_DiskOk.wait l0_0.length p)
theorem impl_DiskOk.btw (a b c : Int) : impl_between.f a b c = some (decide (b ≤ a ∧ a ≤ c)) := by
 unfold impl_between.f
 by_cases h : a ≥ b
 ·have h' : b ≤ a := h
  simp [h, h']
 ·have h' : ¬ b ≤ a := h
  simp [h, h']
theorem impl_DiskOk.idx (a : Int) (n : Nat) (hn : n ≤ 9223372036854775807) : impl_isIndex.f a n = some (decide (0 ≤ a ∧ a ≤ (n : Int) - 1)) := by
 unfold impl_isIndex.f
 rw [impl_DiskOk.btw, show wrap64 ((n : Int) - 1) = (n : Int) - 1 by unfold wrap64; omega]
 rfl
set_option maxHeartbeats 2000000 in
theorem impl_DiskOk.pred (x : S55) (b : Addr) (A : Option Addr) (c n : Nat) (W : World) (hn : n ≤ 9223372036854775807) (hc : W.cell? b = some (.slice A n c)) :
  Calls Try.prog 63 #[.agg #[.int .i64 x.f0, .string x.f1], .pointer (some b)] W fun e w' => e = .returned (.bool (!impl_DiskOk.wait n x)) ∧ Below W.heap.size W w' := by
 have HI := impl_isIndex.calls x.f0 n (decide (0 ≤ x.f0 ∧ x.f0 ≤ (n : Int) - 1))
 have TI := am (impl_DiskOk.idx x.f0 n hn)
 have HS := impl_sectorOk.calls x.f1 ((x.f1.size : Int) == 64)
 have TS := am (show impl_sectorOk.f x.f1 = some ((x.f1.size : Int) == 64) from rfl)
 have HW : Aside0 (impl_DiskOk.wait n x = (decide (0 ≤ x.f0 ∧ x.f0 ≤ (n : Int) - 1) && ((x.f1.size : Int) == 64))) := ⟨rfl⟩
 generalize decide (0 ≤ x.f0 ∧ x.f0 ≤ (n : Int) - 1) = b1 at HI TI HW
 generalize ((x.f1.size : Int) == 64) = b2 at HS TS HW
 have hc' : (W.alloc (.cells #[.int .i64 x.f0, .string x.f1] 55)).cell? b = some (.slice A n c) := (((Below.refl W.heap.size W).alloc (Nat.le_refl _) _).cell (blc W _ hc)).trans hc
 have HB := am ((Below.refl W.heap.size W).alloc (Nat.le_refl _) (.cells #[.int .i64 x.f0, .string x.f1] 55))
 clear hc
 cases b1 <;> cases b2
 all_goals
  go_enter Try.func63, Try.ntmps63
  go_wp2_with (first | (go_at_call 64; refine (HI _ TI.out).mono ?_; rintro e w' ⟨rfl, ⟨q, rfl⟩⟩) | (go_at_call 61; refine (HS _ TS.out).mono ?_; rintro e w' ⟨rfl, ⟨q2, rfl⟩⟩))
  go_ret
  exact ⟨by rw [HW.out]; rfl, by repeat (first | exact HB.out | apply pdn)⟩
set_option maxHeartbeats 4000000 in
set_option maxRecDepth 100000 in
theorem impl_DiskOk.calls (A0_0 : Option Addr) (c0_0 : Nat) (l0_0 : List ByteArray) (A0_1 : Option Addr) (c0_1 : Nat) (l0_1 : List S55) (r : Bool) (w : World) (hr0_0 : Kd.C Kd.string w A0_0 l0_0.length l0_0) (hc0_0 : l0_0.length ≤ c0_0) (hr0_1 : Kd.C k55 w A0_1 l0_1.length l0_1) (hc0_1 : l0_1.length ≤ c0_1) (h : impl_DiskOk.f l0_0 l0_1 = some r) :
  Calls Try.prog 18 #[.agg #[.slice A0_0 l0_0.length c0_0, .slice A0_1 l0_1.length c0_1]] w fun e w' => e = .returned (.bool r) ∧ Below w.heap.size w w' := by
 have hn : l0_0.length ≤ 9223372036854775807 := hr0_0.2.1
 have hn1 : l0_1.length ≤ 9223372036854775807 := hr0_1.2.1
 have HE := am (Option.some.inj h)
 clear h
 obtain ⟨W1, hW1⟩ : ∃ W1, W1 = w.alloc (.cells #[.slice A0_0 l0_0.length c0_0, .slice A0_1 l0_1.length c0_1] 30) := ⟨_, rfl⟩
 have hB : Below w.heap.size w W1 := by rw [hW1]; exact (Below.refl _ _).alloc (Nat.le_refl _) _
 have hz0 : W1.cell? ⟨w.heap.size, 0, none⟩ = some (.slice A0_0 l0_0.length c0_0) := by rw [hW1]; simp
 have hz1 : W1.cell? ⟨w.heap.size, 1, none⟩ = some (.slice A0_1 l0_1.length c0_1) := by rw [hW1]; simp
 have HI : Aside0 (∀ q, Calls Try.prog 62 #[.slice A0_1 l0_1.length c0_1, .func (.func 63) #[] #[.pointer (some ⟨w.heap.size, 0, none⟩)]] (W1.drewN q) fun e w' => e = .returned (.bool (l0_1.any fun p => !impl_DiskOk.wait l0_0.length p)) ∧ Below w.heap.size w w') := ⟨fun q => by
  have hq : Below W1.heap.size W1 (W1.drewN q) := pdn (Below.refl _ _) q
  refine (impl_DiskOk.contains ⟨w.heap.size, 0, none⟩ (fun p => !impl_DiskOk.wait l0_0.length p) A0_1 c0_1 l0_1 (W1.drewN q) (Kd.C_below (Kd.C_below hr0_1 hB) hq) (fun W x hb _ => impl_DiskOk.pred x ⟨w.heap.size, 0, none⟩ A0_0 c0_0 l0_0.length W hn ?_ |>.mono fun e w' ⟨he, hw⟩ => ⟨he, hb.trans (hw.mono hb.size)⟩)).mono fun e w' ⟨he, hw⟩ => ⟨he, hB.trans ((hq.trans (hw.mono hq.size)).mono hB.size)⟩
  have hz := hz0
  exact (hb.cell (blc (W1.drewN q) _ hz)).trans hz⟩
 generalize (l0_1.any fun p => !impl_DiskOk.wait l0_0.length p) = AN at HI HE
 obtain ⟨AL, hAL⟩ : ∃ AL, AL = l0_0.all fun s => ((s.size : Int) == 64) := ⟨_, rfl⟩
 rw [← hAL] at HE
 have HAL := am hAL
 clear hAL hr0_1 hc0_1
 have HR0 := am hr0_0
 clear hr0_0 hc0_0
 have HT := impl_between.calls (l0_0.length : Int) 1 1200 (decide ((1 : Int) ≤ (l0_0.length : Int) ∧ (l0_0.length : Int) ≤ 1200))
 have TT := am (impl_DiskOk.btw (l0_0.length : Int) 1 1200)
 generalize decide ((1 : Int) ≤ (l0_0.length : Int) ∧ (l0_0.length : Int) ≤ 1200) = g1 at HT TT HE
 have HB := am hB
 have HW1 := am hW1
 have HZ0 := am hz0
 have HZ1 := am hz1
 clear hB hz0 hz1
 subst hW1
 cases g1 with
 | false =>
  go_enter Try.func18, Try.ntmps18
  go_wp2_with (go_at_call 60; refine (HT _ TT.out).mono ?_; rintro e w' ⟨rfl, ⟨q, rfl⟩⟩)
  go_ret
  exact ⟨by rw [← HE.out]; rfl, by repeat (first | exact HB.out | apply pdn)⟩
 | true =>
  by_cases g2 : l0_1.length ≤ 600
  ·have g2a : decide (600 < (l0_1.length : Int)) = false := decide_eq_false (by omega)
   have g2b : decide (600 < l0_1.length) = false := decide_eq_false (by omega)
   have G2 : Aside0 (decide ((l0_1.length : Int) ≤ 600) = true) := ⟨decide_eq_true (by omega)⟩
   clear g2
   go_enter Try.func18, Try.ntmps18
   go_wp2_with (go_at_call 60; refine (HT _ TT.out).mono ?_; rintro e w' ⟨rfl, ⟨q, rfl⟩⟩)
   go_loopg [19] l0_0.length (fun gg s19 wr => ∃ kk : Nat, kk ≤ l0_0.length ∧ l0_0.length - kk ≤ gg ∧ s19 = .int .i64 kk ∧ Aside0 (Drawn0 (w.alloc (.cells #[.slice A0_0 l0_0.length c0_0, .slice A0_1 l0_1.length c0_1] 30)) wr) ∧ Aside0 (AL = (l0_0.drop kk).all fun s => ((s.size : Int) == 64)))
   case atStart => exact ⟨0, Nat.zero_le _, by omega, rfl, ⟨⟨_, rfl⟩⟩, HAL⟩
   case round =>
    obtain ⟨kk, hkk, hg, rfl, BW, AI⟩ := hrel
    obtain ⟨q, hq⟩ := BW.out.out
    have hz0 : wr.cell? ⟨w.heap.size, 0, none⟩ = some (.slice A0_0 l0_0.length c0_0) := by rw [hq]; exact HZ0.out
    have hz1 : wr.cell? ⟨w.heap.size, 1, none⟩ = some (.slice A0_1 l0_1.length c0_1) := by rw [hq]; exact HZ1.out
    have HBW : Below w.heap.size w wr := by rw [hq]; exact pdn HB.out q
    have HJ : Aside0 (Calls Try.prog 62 #[.slice A0_1 l0_1.length c0_1, .func (.func 63) #[] #[.pointer (some ⟨w.heap.size, 0, none⟩)]] wr fun e w' => e = .returned (.bool AN) ∧ Below w.heap.size w w') := ⟨by rw [hq]; exact HI.out q⟩
    clear hq
    by_cases hlt : kk < l0_0.length
    ·have hltz : (kk : Int) < (l0_0.length : Int) := by omega
     obtain ⟨ad, e, hx0⟩ := Kd.at_string HR0.out (kk : Int) (by omega) hltz
     cases e
     rw [Int.toNat_natCast] at hx0
     replace hx0 := (HBW.cell (blc w _ hx0)).trans hx0
     have HEL : Aside0 (rdOf ByteArray.empty l0_0 (kk : Int) = l0_0[kk]) := ⟨by simp [rdOf, List.getD_eq_getElem?_getD, List.getElem?_eq_getElem hlt]⟩
     have HD : Aside0 (((l0_0.drop kk).all fun s => ((s.size : Int) == 64)) = (((l0_0[kk].size : Int) == 64) && ((l0_0.drop (kk + 1)).all fun s => ((s.size : Int) == 64)))) := ⟨by rw [List.drop_eq_getElem_cons hlt]; rfl⟩
     rw [← HEL.out] at HD
     clear HEL
     generalize rdOf ByteArray.empty l0_0 (kk : Int) = y at hx0 HD
     have HS := impl_sectorOk.calls y ((y.size : Int) == 64)
     have TS := am (show impl_sectorOk.f y = some ((y.size : Int) == 64) from rfl)
     generalize ((y.size : Int) == 64) = b2 at HS TS HD
     have HBW' := am HBW
     clear HBW
     cases b2 with
     | false =>
      go_wp2_with (go_at_call 61; refine (HS _ TS.out).mono ?_; rintro e w' ⟨rfl, ⟨q2, rfl⟩⟩)
      go_ret
      exact ⟨by rw [← HE.out, AI.out, HD.out]; simp, by repeat (first | exact HBW'.out | apply pdn)⟩
     | true =>
      go_wp2_with (go_at_call 61; refine (HS _ TS.out).mono ?_; rintro e w' ⟨rfl, ⟨q2, rfl⟩⟩)
      go_roundg (l0_0.length - (kk + 1))
      case measure => omega
      case rel => exact ⟨kk + 1, by omega, by omega, by go_num, ⟨BW.out.step q2⟩, ⟨by rw [AI.out, HD.out]; rfl⟩⟩
    ·have hltz : ¬ (kk : Int) < (l0_0.length : Int) := by omega
     have HD : Aside0 (AL = true) := ⟨by rw [AI.out, List.drop_of_length_le (by omega)]; rfl⟩
     clear HBW AI
     go_wp2_with (go_at_call 62; refine HJ.out.mono ?_; rintro e w' ⟨rfl, hb⟩)
     go_ret
     exact ⟨by rw [← HE.out, HD.out, G2.out]; simp, hb⟩
  ·have g2a : decide (600 < (l0_1.length : Int)) = true := decide_eq_true (by omega)
   have g2b : decide (600 < l0_1.length) = true := decide_eq_true (by omega)
   have G2 : Aside0 (decide ((l0_1.length : Int) ≤ 600) = false) := ⟨decide_eq_false (by omega)⟩
   clear g2
   go_enter Try.func18, Try.ntmps18
   go_wp2_with (go_at_call 60; refine (HT _ TT.out).mono ?_; rintro e w' ⟨rfl, ⟨q, rfl⟩⟩)
   go_ret
   exact ⟨by rw [← HE.out, G2.out]; simp, by repeat (first | exact HB.out | apply pdn)⟩

end Go.Proofs.Ythphhklbliambaa.MFnDiskKeeps
