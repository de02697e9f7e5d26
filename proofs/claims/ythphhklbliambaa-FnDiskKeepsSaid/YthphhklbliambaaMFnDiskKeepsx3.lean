-- Written by a program of this session (wip/tools/myprint.py) over the kit's print: it is not the kit's print.
import Derived.Test.YthphhklbliambaaExtra
import Derived.Test.YthphhklbliambaaMFnDiskKeepsx0
import Derived.Test.YthphhklbliambaaMFnDiskKeepsx2
namespace Go.Proofs.Ythphhklbliambaa.MFnDiskKeeps
open Go.RowKit Go.Proofs.YthphhklbliambaaW.PrintWords Go.Proofs.YthphhklbliambaaW.PrintLast Go.Proofs.YthphhklbliambaaW.PrintMore
open List renaming setIfInBounds_toArray → sit, set_cons_zero → scz, set_cons_succ → scs, map_toArray → mta, map_cons → mco, map_nil → mni, length_drop → lnd, length_take → lnt
open World renaming block_lt_of_cell? → blc
attribute [local go_sem] max2_int min2_int max_two min_two max_three min_three max_four min_four   -- for this text's walks alone
set_option linter.unusedVariables false
set_option linter.unusedSimpArgs false

/-! ### impl_Disk_lost: function 78 -/
def impl_Disk_lost.l0 : Nat → List Int → Int → List ByteArray → List Int → Int → Int → List ByteArray → List (S55) → Option (List ByteArray × (List (S55)))
 | 0, _, _, _, _, _, _, _, _ => none
 | k + 1, x1, x2, x7, x15, x16, x17, x131000, x131001 => if x17 < x16 then (if 0 ≤ x17 then (if x17 < (x15.length : Int) then (if 0 ≤ (rd x15 x17) then (if (rd x15 x17) < (x131001.length : Int) then (if x17 = (wrap64 ((x1.length : Int) - 1)) then (if x2 ≥ 0 then (if 0 ≤ x2 then (if x2 ≤ (((rd_T55 x131001 (rd x15 x17)).f1).size : Int) then (if 0 ≤ ((rd_T55 x131001 (rd x15 x17)).f0) then (if ((rd_T55 x131001 (rd x15 x17)).f0) < (x7.length : Int) then (if x2 ≤ ((rdOf ByteArray.empty x7 ((rd_T55 x131001 (rd x15 x17)).f0)).size : Int) then (if (((rd_T55 x131001 (rd x15 x17)).f1).extract 0 (x2 : Int).toNat).size + ((rdOf ByteArray.empty x7 ((rd_T55 x131001 (rd x15 x17)).f0)).extract (x2 : Int).toNat (rdOf ByteArray.empty x7 ((rd_T55 x131001 (rd x15 x17)).f0)).size).size ≤ 9223372036854775807 then (impl_Disk_lost.l0 k x1 x2 (x7.set (((rd_T55 x131001 (rd x15 x17)).f0) : Int).toNat ((((rd_T55 x131001 (rd x15 x17)).f1).extract 0 (x2 : Int).toNat) ++ ((rdOf ByteArray.empty x7 ((rd_T55 x131001 (rd x15 x17)).f0)).extract (x2 : Int).toNat (rdOf ByteArray.empty x7 ((rd_T55 x131001 (rd x15 x17)).f0)).size))) x15 x16 (wrap64 (x17 + 1)) x131000 x131001) else (none)) else (none)) else (none)) else (none)) else (none)) else (none)) else (if 0 ≤ 64 then (if 64 ≤ (((rd_T55 x131001 (rd x15 x17)).f1).size : Int) then (if 0 ≤ ((rd_T55 x131001 (rd x15 x17)).f0) then (if ((rd_T55 x131001 (rd x15 x17)).f0) < (x7.length : Int) then (if 64 ≤ ((rdOf ByteArray.empty x7 ((rd_T55 x131001 (rd x15 x17)).f0)).size : Int) then (if (((rd_T55 x131001 (rd x15 x17)).f1).extract 0 64).size + ((rdOf ByteArray.empty x7 ((rd_T55 x131001 (rd x15 x17)).f0)).extract 64 (rdOf ByteArray.empty x7 ((rd_T55 x131001 (rd x15 x17)).f0)).size).size ≤ 9223372036854775807 then (impl_Disk_lost.l0 k x1 x2 (x7.set (((rd_T55 x131001 (rd x15 x17)).f0) : Int).toNat ((((rd_T55 x131001 (rd x15 x17)).f1).extract 0 64) ++ ((rdOf ByteArray.empty x7 ((rd_T55 x131001 (rd x15 x17)).f0)).extract 64 (rdOf ByteArray.empty x7 ((rd_T55 x131001 (rd x15 x17)).f0)).size))) x15 x16 (wrap64 (x17 + 1)) x131000 x131001) else (none)) else (none)) else (none)) else (none)) else (none)) else (none))) else (if 0 ≤ 64 then (if 64 ≤ (((rd_T55 x131001 (rd x15 x17)).f1).size : Int) then (if 0 ≤ ((rd_T55 x131001 (rd x15 x17)).f0) then (if ((rd_T55 x131001 (rd x15 x17)).f0) < (x7.length : Int) then (if 64 ≤ ((rdOf ByteArray.empty x7 ((rd_T55 x131001 (rd x15 x17)).f0)).size : Int) then (if (((rd_T55 x131001 (rd x15 x17)).f1).extract 0 64).size + ((rdOf ByteArray.empty x7 ((rd_T55 x131001 (rd x15 x17)).f0)).extract 64 (rdOf ByteArray.empty x7 ((rd_T55 x131001 (rd x15 x17)).f0)).size).size ≤ 9223372036854775807 then (impl_Disk_lost.l0 k x1 x2 (x7.set (((rd_T55 x131001 (rd x15 x17)).f0) : Int).toNat ((((rd_T55 x131001 (rd x15 x17)).f1).extract 0 64) ++ ((rdOf ByteArray.empty x7 ((rd_T55 x131001 (rd x15 x17)).f0)).extract 64 (rdOf ByteArray.empty x7 ((rd_T55 x131001 (rd x15 x17)).f0)).size))) x15 x16 (wrap64 (x17 + 1)) x131000 x131001) else (none)) else (none)) else (none)) else (none)) else (none)) else (none))) else (none)) else (none)) else (none)) else (none)) else (some (x7, ([] : List (S55))))
def impl_Disk_lost.f (k : Nat) (l0_0 : List ByteArray) (l0_1 : List (S55)) (l1 : List Int) (a2 : Int) : Option (List ByteArray × (List (S55))) := (slices_Clone_string_string.f l0_0).bind fun t132 => (impl_Disk_lost.l0 k l1 a2 t132 l1 (l1.length : Int) 0 l0_0 l0_1)
theorem impl_Disk_lost.mono_l : ∀ k, (∀ y0 y1 y2 y3 y4 y5 y6 y7, LeO (impl_Disk_lost.l0 k y0 y1 y2 y3 y4 y5 y6 y7) (impl_Disk_lost.l0 (k + 1) y0 y1 y2 y3 y4 y5 y6 y7))
 | 0 => fun _ _ _ _ _ _ _ _ r h => by simp [impl_Disk_lost.l0] at h
 | k + 1 => by
  have ih0 := impl_Disk_lost.mono_l k
  ·intro y0 y1 y2 y3 y4 y5 y6 y7
   unfold impl_Disk_lost.l0
   repeat' first
   | (with_reducible exact ih0 _ _ _ _ _ _ _ _)
   | (with_reducible exact LeO.refl _)
   | (with_reducible exact LeO.none _)
   | (with_reducible refine LeO.ite ?_ ?_)
   | (with_reducible refine LeO.bind ?_ (fun _ => ?_))
   | exact ih0 _ _ _ _ _ _ _ _
   | exact LeO.none _
   | refine LeO.ite ?_ ?_
   | refine LeO.bind ?_ (fun _ => ?_)
theorem impl_Disk_lost.mono : ∀ a0 a1 a2 a3 k, LeO (impl_Disk_lost.f k a0 a1 a2 a3) (impl_Disk_lost.f (k + 1) a0 a1 a2 a3) := by
 intro a0 a1 a2 a3 k
 have ih0 := impl_Disk_lost.mono_l k
 unfold impl_Disk_lost.f
 repeat' first
   | (with_reducible exact ih0 _ _ _ _ _ _ _ _)
   | (with_reducible exact LeO.refl _)
   | (with_reducible exact LeO.none _)
   | (with_reducible refine LeO.ite ?_ ?_)
   | (with_reducible refine LeO.bind ?_ (fun _ => ?_))
   | exact ih0 _ _ _ _ _ _ _ _
   | exact LeO.none _
   | refine LeO.ite ?_ ?_
   | refine LeO.bind ?_ (fun _ => ?_)
def impl_Disk_lost.T9 : Bool × List (List Nat × List Nat) := (true, [([], []), ([], []), ([1], [1]), ([], []), ([3], [3]), ([], []), ([4, 5], [4, 5]), ([], []), ([], []), ([8], [8]), ([7, 9], [7, 9]), ([10], [10]), ([], []), ([11, 12], [11, 12]), ([6, 13], [6, 13]), ([0, 2, 0, 1, 2, 3, 4, 5, 6, 7, 8, 9, 10, 11, 12, 13, 14], [0, 2]), ([15, 14, 0, 1, 2, 3, 4, 5, 6, 7, 8, 9, 10, 11, 12, 13, 14], [14, 15])])
def impl_Disk_lost.B9 : List Nat := [0, 0, 2, 0, 8, 0, 56, 0, 0, 256, 896, 1920, 0, 8064, 16376, 32767, 65535]
theorem impl_Disk_lost.tab9 : rtab .any (opsOf Try.f78 9) = impl_Disk_lost.T9 := by kernel_rfl
theorem impl_Disk_lost.bits9 : waitsOk impl_Disk_lost.T9.2 impl_Disk_lost.B9 = true := by kernel_rfl
set_option maxHeartbeats 8000000 in
set_option maxRecDepth 100000 in
theorem impl_Disk_lost.calls (k : Nat) (A0_0 : Option Addr) (c0_0 : Nat) (l0_0 : List ByteArray) (A0_1 : Option Addr) (c0_1 : Nat) (l0_1 : List (S55)) (A1 : Option Addr) (c1 : Nat) (l1 : List Int) (a2 : Int) (r1 : List ByteArray) (r2 : List (S55)) (w : World) (hr0_0 : Kd.C Kd.string w A0_0 l0_0.length l0_0) (hc0_0 : l0_0.length ≤ c0_0) (hr0_1 : Kd.C k55 w A0_1 l0_1.length l0_1) (hc0_1 : l0_1.length ≤ c0_1) (hr1 : Kd.C (Kd.int .i64) w A1 l1.length l1) (hc1 : l1.length ≤ c1) (h : impl_Disk_lost.f k l0_0 l0_1 l1 a2 = some (r1, r2)) :
  Calls Try.prog 78 #[.agg #[.slice A0_0 l0_0.length c0_0, .slice A0_1 l0_1.length c0_1], .slice A1 l1.length c1, .int .i64 a2] w fun e w' => ∃ v0_ v1_ : Value, e = .returned (.agg #[v0_, v1_]) ∧ Kd.R Kd.string 9 w' w.heap.size (fun _ => True) v0_ r1 ∧ Kd.R k55 55 w' w.heap.size (fun _ => True) v1_ r2 ∧ Below w.heap.size w w' := by
 have hu30 := Try.underlying30
 have hu55 := Try.underlying55
 have HR0_0 := am hr0_0
 have HC0_0 := am hc0_0
 clear hr0_0 hc0_0
 have HR0_1 := am hr0_1
 have HC0_1 := am hc0_1
 clear hr0_1 hc0_1
 have HR1 := am hr1
 have HC1 := am hc1
 clear hr1 hc1
 have HB := am (Below.refl w.heap.size w)
 have H : ((slices_Clone_string_string.f l0_0).bind fun t132 => (impl_Disk_lost.l0 k l1 a2 t132 l1 (l1.length : Int) 0 l0_0 l0_1)) = some (r1, r2) := h
 clear h
 replace H := Option.bind_eq_some_iff.mp H
 obtain ⟨t132, A40, H⟩ := H
 replace H : (impl_Disk_lost.l0 k l1 a2 t132 l1 (l1.length : Int) 0 l0_0 l0_1) = some (r1, r2) := H
 have A4 := am A40
 clear A40
 have H' := am H
 clear H
 go_enter Try.func78, Try.ntmps78
 go_wp2_with (first | ((with_reducible refine gate_dst (N := 3) rfl ?_); refine box_event ?hg (N := 3) ?hd (cs := #[.slice A0_0 l0_0.length c0_0, .slice A0_1 l0_1.length c0_1]) (t := 30) ?hr ?_; (case hd => rfl); (case hg => rfl); (case hr => first | (go_simp; done) | (go_simp; rfl)); intro gb130 hg w5 hbox hb; have n0_ := am (below_step (by repeat (first | (with_reducible first | exact HB.out | apply bal | apply pdn | apply bd1) | exact HB.out)) hb); have n1_ := am (hbox); have n2_ := am ((by rw [hg]; exact (below_size (by repeat (first | (with_reducible first | exact HB.out | apply bal | apply pdn | apply bd1) | exact HB.out))) : w.heap.size ≤ gb130)); have n3_ := am ((by rw [hg]; exact (below_size (by repeat (first | (with_reducible first | exact HB.out | apply bal | apply pdn | apply bd1) | exact HB.out))) : w.heap.size ≤ gb130)); clear HB; have HB := n0_; have BK130 := n1_; have GW130 := n2_; have GE130 := n3_; clear n0_ n1_ n2_ n3_; clear hb hbox hg) | ((with_reducible refine gate_dst (N := 6) rfl ?_); refine box_event ?hg (N := 6) ?hd (cs := #[.slice none 0 0, .slice none 0 0]) (t := 30) ?hr ?_; (case hd => rfl); (case hg => rfl); (case hr => first | (go_simp; done) | (go_simp; rfl)); intro gb131 hg w6 hbox hb; have n0_ := am (kbb (g := gb130) (o := .cells #[.slice A0_0 l0_0.length c0_0, .slice A0_1 l0_1.length c0_1] 30 (0, 0)) (by (with_reducible repeat (first | apply kdn | apply kdr | apply kal)); exact BK130.out) hb); have n1_ := am (below_step (by repeat (first | (with_reducible first | exact HB.out | apply bal | apply pdn | apply bd1 | refine bst ?_ GE130.out) | exact HB.out)) hb); have n2_ := am (hbox); have n3_ := am ((by rw [hg]; exact (below_size (by repeat (first | (with_reducible first | exact HB.out | apply bal | apply pdn | apply bd1 | refine bst ?_ GE130.out) | exact HB.out))) : w.heap.size ≤ gb131)); have n4_ := am ((by rw [hg]; exact (below_size (by repeat (first | (with_reducible first | exact HB.out | apply bal | apply pdn | apply bd1 | refine bst ?_ GE130.out) | exact HB.out))) : w.heap.size ≤ gb131)); have n5_ := am ((by rw [hg]; exact Nat.ne_of_lt (blk_lt (g := gb130) (o := .cells #[.slice A0_0 l0_0.length c0_0, .slice A0_1 l0_1.length c0_1] 30 (0, 0)) (by (with_reducible repeat (first | apply kdn | apply kdr | apply kal)); exact BK130.out)) : gb130 ≠ gb131)); have n6_ := am ((by rw [hg]; exact Nat.ne_of_gt (blk_lt (g := gb130) (o := .cells #[.slice A0_0 l0_0.length c0_0, .slice A0_1 l0_1.length c0_1] 30 (0, 0)) (by (with_reducible repeat (first | apply kdn | apply kdr | apply kal)); exact BK130.out)) : gb131 ≠ gb130)); clear BK130; clear HB; have BK130 := n0_; have HB := n1_; have BK131 := n2_; have GW131 := n3_; have GE131 := n4_; have NB130_131 := n5_; have NB131_130 := n6_; clear n0_ n1_ n2_ n3_ n4_ n5_ n6_; clear hb hbox hg; have hnb7 := NB130_131.out; have hnc7 := NB131_130.out; have hcz8_0 : w6.cell? ⟨gb130, 0, none⟩ = some (.slice A0_0 l0_0.length c0_0) := (kce BK130.out 0).trans rfl; have hcz8_1 : w6.cell? ⟨gb130, 1, none⟩ = some (.slice A0_1 l0_1.length c0_1) := (kce BK130.out 1).trans rfl; have hfz8_0 := kfr BK130.out 0; have hfz8_1 := kfr BK130.out 1) | ((with_reducible refine gate_callee (f := 107) rfl ?_); refine goesL_ (some 14) rfl rfl Try.func107 (by kernel_rfl) rfl #[.slice A0_0 l0_0.length c0_0] rfl (by (try simp only [mta, mco, mni]); first | done | rfl | (simp only [lnd, lnt]; rfl)) ?_; (with_reducible refine (slices_Clone_string_string.calls _ _ l0_0 t132 _ ?side1 ?side2 A4.out).mono ?_); (case side1 => repeat (first | exact (Kd.C_below HR0_0.out HB.out) | (with_reducible first | apply kca | apply kcn | apply kcd))); (case side2 => exact HC0_0.out); rintro e w9 ⟨v133, rfl, ho0, hb⟩; refine ⟨_, rfl, ?_⟩; have n0_ := am (Kd.R_lower ho0 (below_size (by repeat (first | (with_reducible first | exact HB.out | apply bal | apply pdn | apply bd1 | refine bst ?_ GE130.out | refine bst ?_ GE131.out) | exact HB.out)))); have n1_ := am (kbb (g := gb130) (o := .cells #[.slice A0_0 l0_0.length c0_0, .slice A0_1 l0_1.length c0_1] 30 (0, 0)) (by (with_reducible repeat (first | apply kdn | apply kdr | apply kal)); exact BK130.out) hb); have n2_ := am (kbb (g := gb131) (o := .cells #[.slice none 0 0, .slice none 0 0] 30 (0, 0)) (by (with_reducible repeat (first | apply kdn | apply kdr | apply kal)); exact BK131.out) hb); have n3_ := am (below_step (by repeat (first | (with_reducible first | exact HB.out | apply bal | apply pdn | apply bd1 | refine bst ?_ GE130.out | refine bst ?_ GE131.out) | exact HB.out)) hb); clear BK130; clear BK131; clear HB; have HO134 := n0_; have BK130 := n1_; have BK131 := n2_; have HB := n3_; clear n0_ n1_ n2_ n3_; (try clear hb); (try clear hb2); (try clear hk); (try clear hi); (try clear ho0)))
 go_loopg [17] k (fun kq v17 w' => ∃ (x7_1 : List ByteArray) (x17_1 : Int), v17 = .int .i64 x17_1 ∧ Aside0 (impl_Disk_lost.l0 kq l1 a2 x7_1 l1 (l1.length : Int) x17_1 l0_0 l0_1 = some (r1, r2)) ∧ Aside0 (kq ≤ k) ∧ Aside0 (Kd.R Kd.string 9 w' w.heap.size (fun _ => True) v133 x7_1) ∧ Aside0 (w'.heap[gb130]? = some (.cells #[(.slice A0_0 l0_0.length c0_0), (.slice A0_1 l0_1.length c0_1)] 30 (0, 0))) ∧ Aside0 (w'.heap[gb131]? = some (.cells #[(.slice none 0 0), (.slice none 0 0)] 30 (0, 0))) ∧ Aside0 (Below w.heap.size w w'))
 case atStart => exact ⟨(t132), (0), (by first | rfl | (simp; done) | (simp [*]; done)), H', ⟨Nat.le_refl _⟩, ⟨by (with_reducible repeat (first | apply kra | apply krn | apply krd)); exact HO134.out⟩, ⟨by (with_reducible repeat (first | apply kdn | apply kdr | apply kal)); exact BK130.out⟩, ⟨by (with_reducible repeat (first | apply kdn | apply kdr | apply kal)); exact BK131.out⟩, ⟨by repeat (first | (with_reducible first | exact HB.out | apply bal | apply pdn | apply bd1 | refine bst ?_ GE130.out | refine bst ?_ GE131.out) | exact HB.out)⟩⟩
 case round =>
  clear H'
  obtain ⟨x7_1, x17_1, rfl, HA, HK1, HO_7, BK130, BK131, HB⟩ := hrel
  cases gk with
  | zero => exact absurd HA.out (by simp [impl_Disk_lost.l0])
  | succ k1 =>
   have H := HA.out
   clear HA
   simp only [impl_Disk_lost.l0] at H
   by_cases c10 : x17_1 < (l1.length : Int)
   ·rw [if_pos c10] at H
    have c10b0 : decide (x17_1 < (l1.length : Int)) = true := decide_eq_true c10
    clear c10
    by_cases c11 : 0 ≤ x17_1
    ·rw [if_pos c11] at H
     have c11b0 : decide (0 ≤ x17_1) = true := decide_eq_true c11
     clear c11
     by_cases c12 : x17_1 < (l1.length : Int)
     ·rw [if_pos c12] at H
      have c12b0 : decide (x17_1 < (l1.length : Int)) = true := decide_eq_true c12
      clear c12
      by_cases c13 : 0 ≤ (rd l1 x17_1)
      ·rw [if_pos c13] at H
       have c13b0 : decide (0 ≤ (rd l1 x17_1)) = true := decide_eq_true c13
       clear c13
       by_cases c14 : (rd l1 x17_1) < (l0_1.length : Int)
       ·rw [if_pos c14] at H
        have c14b0 : decide ((rd l1 x17_1) < (l0_1.length : Int)) = true := decide_eq_true c14
        clear c14
        by_cases c15 : x17_1 = (wrap64 ((l1.length : Int) - 1))
        ·rw [if_pos c15] at H
         have c15b0 : (x17_1 == (wrap64 ((l1.length : Int) - 1))) = true := beq_iff_eq.mpr c15
         have c15b1 : (x17_1 != (wrap64 ((l1.length : Int) - 1))) = false := bne_eq_false_iff_eq.mpr c15
         clear c15
         by_cases c16 : a2 ≥ 0
         ·rw [if_pos c16] at H
          have c16b0 : decide (0 ≤ a2) = true := decide_eq_true c16
          clear c16
          by_cases c17 : 0 ≤ a2
          ·rw [if_pos c17] at H
           have c17b0 := eq_true c17
           have c17b1 : decide (0 ≤ a2) = true := decide_eq_true c17
           clear c17
           by_cases c18 : a2 ≤ (((rd_T55 l0_1 (rd l1 x17_1)).f1).size : Int)
           ·rw [if_pos c18] at H
            have c18b0 := eq_true c18
            have c18b1 : decide (a2 ≤ (((rd_T55 l0_1 (rd l1 x17_1)).f1).size : Int)) = true := decide_eq_true c18
            clear c18
            by_cases c19 : 0 ≤ ((rd_T55 l0_1 (rd l1 x17_1)).f0)
            ·rw [if_pos c19] at H
             have c19b0 : decide (0 ≤ ((rd_T55 l0_1 (rd l1 x17_1)).f0)) = true := decide_eq_true c19
             clear c19
             by_cases c20 : ((rd_T55 l0_1 (rd l1 x17_1)).f0) < (x7_1.length : Int)
             ·rw [if_pos c20] at H
              have c20b0 : decide (((rd_T55 l0_1 (rd l1 x17_1)).f0) < (x7_1.length : Int)) = true := decide_eq_true c20
              clear c20
              have c21b0 := eq_true (of_decide_eq_true (by first | (with_reducible assumption) | assumption) : 0 ≤ a2)
              by_cases c22 : a2 ≤ ((rdOf ByteArray.empty x7_1 ((rd_T55 l0_1 (rd l1 x17_1)).f0)).size : Int)
              ·rw [if_pos c22] at H
               have c22b0 := eq_true c22
               have c22b1 : decide (a2 ≤ ((rdOf ByteArray.empty x7_1 ((rd_T55 l0_1 (rd l1 x17_1)).f0)).size : Int)) = true := decide_eq_true c22
               clear c22
               by_cases c23 : (((rd_T55 l0_1 (rd l1 x17_1)).f1).extract 0 (a2 : Int).toNat).size + ((rdOf ByteArray.empty x7_1 ((rd_T55 l0_1 (rd l1 x17_1)).f0)).extract (a2 : Int).toNat (rdOf ByteArray.empty x7_1 ((rd_T55 l0_1 (rd l1 x17_1)).f0)).size).size ≤ 9223372036854775807
               ·rw [if_pos c23] at H
                try have c23x : (9223372036854775807 < (rdOf ByteArray.empty x7_1 ((rd_T55 l0_1 (rd l1 x17_1)).f0)).size) = False := eq_false (by have z_ := c23; have z1_ : a2 ≤ (((rd_T55 l0_1 (rd l1 x17_1)).f1).size : Int) := of_decide_eq_true (by assumption); have z2_ : a2 ≤ ((rdOf ByteArray.empty x7_1 ((rd_T55 l0_1 (rd l1 x17_1)).f0)).size : Int) := of_decide_eq_true (by assumption); simp only [ByteArray.size_extract] at z_; omega)
                have c23b0 := eq_true c23
                have c23b1 : decide ((((rd_T55 l0_1 (rd l1 x17_1)).f1).extract 0 (a2 : Int).toNat).size + ((rdOf ByteArray.empty x7_1 ((rd_T55 l0_1 (rd l1 x17_1)).f0)).extract (a2 : Int).toNat (rdOf ByteArray.empty x7_1 ((rd_T55 l0_1 (rd l1 x17_1)).f0)).size).size ≤ 9223372036854775807) = true := decide_eq_true c23
                try have c23b2 : (9223372036854775807 < (((rd_T55 l0_1 (rd l1 x17_1)).f1).extract 0 (a2 : Int).toNat).size + ((rdOf ByteArray.empty x7_1 ((rd_T55 l0_1 (rd l1 x17_1)).f0)).extract (a2 : Int).toNat (rdOf ByteArray.empty x7_1 ((rd_T55 l0_1 (rd l1 x17_1)).f0)).size).size) = False := eq_false (Nat.not_lt.2 c23)
                obtain ⟨y139, hy139⟩ : ∃ y_ : List ByteArray, y_ = (x7_1.set (((rd_T55 l0_1 (rd l1 x17_1)).f0) : Int).toNat ((((rd_T55 l0_1 (rd l1 x17_1)).f1).extract 0 (a2 : Int).toNat) ++ ((rdOf ByteArray.empty x7_1 ((rd_T55 l0_1 (rd l1 x17_1)).f0)).extract (a2 : Int).toNat (rdOf ByteArray.empty x7_1 ((rd_T55 l0_1 (rd l1 x17_1)).f0)).size))) := ⟨_, rfl⟩
                replace H : (impl_Disk_lost.l0 k1 l1 a2 y139 l1 (l1.length : Int) (wrap64 (x17_1 + 1)) l0_0 l0_1) = some (r1, r2) := by first | (rw [hy139]; with_reducible exact H) | (have H2_ := (Option.bind_some _ _).symm.trans H; rw [hy139]; with_reducible exact H2_) | (have H2_ := (Option.bind_some _ _).symm.trans H; with_reducible exact H2_) | with_reducible exact H | (rw [hy139]; exact H) | exact H
                have Ny139 := am hy139
                clear hy139
                have H' := am H
                clear H
                have p135 : 0 ≤ (x17_1 : Int) := of_decide_eq_true (by first | (with_reducible assumption) | assumption)
                have q135 : x17_1 < (l1.length : Int) := of_decide_eq_true (by first | (with_reducible assumption) | assumption)
                obtain ⟨ad135, e135, hx135_0⟩ := Kd.at_int HR1.out x17_1 p135 q135
                cases e135
                replace hx135_0 := (HB.out.cell (blc w _ hx135_0)).trans hx135_0
                replace p135 := eq_true p135
                replace q135 := eq_true q135
                have hnb25 := NB130_131.out
                have hnc25 := NB131_130.out
                have hcz26_0 : wr.cell? ⟨gb130, 0, none⟩ = some (.slice A0_0 l0_0.length c0_0) := (kce BK130.out 0).trans rfl
                have hcz26_1 : wr.cell? ⟨gb130, 1, none⟩ = some (.slice A0_1 l0_1.length c0_1) := (kce BK130.out 1).trans rfl
                have hfz26_0 := kfr BK130.out 0
                have hfz26_1 := kfr BK130.out 1
                have p136 : 0 ≤ ((rd l1 x17_1) : Int) := of_decide_eq_true (by first | (with_reducible assumption) | assumption)
                have q136 : (rd l1 x17_1) < (l0_1.length : Int) := of_decide_eq_true (by first | (with_reducible assumption) | assumption)
                obtain ⟨ad136, e136, hx136_0, hx136_1⟩ := at_T55 HR0_1.out (rd l1 x17_1) p136 q136
                cases e136
                replace hx136_0 := (HB.out.cell (blc w _ hx136_0)).trans hx136_0
                replace hx136_1 := (HB.out.cell (blc w _ hx136_1)).trans hx136_1
                replace p136 := eq_true p136
                replace q136 := eq_true q136
                try go_wp2_with (first | ((with_reducible refine gate_dst (N := 10) rfl ?_); refine box_event ?hg (N := 10) ?hd (cs := #[.int .i64 0, .string (⟨#[]⟩ : ByteArray)]) (t := 55) ?hr ?_; (case hd => rfl); (case hg => rfl); (case hr => first | (go_simp; done) | (go_simp; rfl)); intro gb137 hg w27 hbox hb; have n0_ := am (krb (by (with_reducible repeat (first | apply kra | apply krn | apply krd)); exact HO_7.out) hb); have n1_ := am (kbb (g := gb130) (o := .cells #[.slice A0_0 l0_0.length c0_0, .slice (some ad136) l0_1.length c0_1] 30 (0, 0)) (by (with_reducible repeat (first | apply kdn | apply kdr | apply kal)); exact BK130.out) hb); have n2_ := am (kbb (g := gb131) (o := .cells #[.slice none 0 0, .slice none 0 0] 30 (0, 0)) (by (with_reducible repeat (first | apply kdn | apply kdr | apply kal)); exact BK131.out) hb); have n3_ := am (below_step (by repeat (first | (with_reducible first | exact HB.out | apply bal | apply pdn | apply bd1 | refine bst ?_ GE130.out | refine bst ?_ GE131.out) | exact HB.out)) hb); have n4_ := am (hbox); have n5_ := am ((by rw [hg]; exact (below_size (by repeat (first | (with_reducible first | exact HB.out | apply bal | apply pdn | apply bd1 | refine bst ?_ GE130.out | refine bst ?_ GE131.out) | exact HB.out))) : w.heap.size ≤ gb137)); have n6_ := am ((by rw [hg]; exact (below_size (by repeat (first | (with_reducible first | exact HB.out | apply bal | apply pdn | apply bd1 | refine bst ?_ GE130.out | refine bst ?_ GE131.out) | exact HB.out))) : w.heap.size ≤ gb137)); have n7_ := am ((by rw [hg]; exact Nat.ne_of_lt (blk_lt (g := gb130) (o := .cells #[.slice A0_0 l0_0.length c0_0, .slice (some ad136) l0_1.length c0_1] 30 (0, 0)) (by (with_reducible repeat (first | apply kdn | apply kdr | apply kal)); exact BK130.out)) : gb130 ≠ gb137)); have n8_ := am ((by rw [hg]; exact Nat.ne_of_gt (blk_lt (g := gb130) (o := .cells #[.slice A0_0 l0_0.length c0_0, .slice (some ad136) l0_1.length c0_1] 30 (0, 0)) (by (with_reducible repeat (first | apply kdn | apply kdr | apply kal)); exact BK130.out)) : gb137 ≠ gb130)); have n9_ := am ((by rw [hg]; exact Nat.ne_of_lt (blk_lt (g := gb131) (o := .cells #[.slice none 0 0, .slice none 0 0] 30 (0, 0)) (by (with_reducible repeat (first | apply kdn | apply kdr | apply kal)); exact BK131.out)) : gb131 ≠ gb137)); have n10_ := am ((by rw [hg]; exact Nat.ne_of_gt (blk_lt (g := gb131) (o := .cells #[.slice none 0 0, .slice none 0 0] 30 (0, 0)) (by (with_reducible repeat (first | apply kdn | apply kdr | apply kal)); exact BK131.out)) : gb137 ≠ gb131)); clear HO_7; clear BK130; clear BK131; clear HB; have HO_7 := n0_; have BK130 := n1_; have BK131 := n2_; have HB := n3_; have BK137 := n4_; have GW137 := n5_; have GE137 := n6_; have NB130_137 := n7_; have NB137_130 := n8_; have NB131_137 := n9_; have NB137_131 := n10_; clear n0_ n1_ n2_ n3_ n4_ n5_ n6_ n7_ n8_ n9_ n10_; clear hb hbox hg; have hnb28 := NB137_130.out; have hnc28 := NB130_137.out; have hnb29 := NB137_131.out; have hnc29 := NB131_137.out; have hcz30_0 : w27.cell? ⟨gb137, 0, none⟩ = some (.int .i64 0) := (kce BK137.out 0).trans rfl; have hcz30_1 : w27.cell? ⟨gb137, 1, none⟩ = some (.string (⟨#[]⟩ : ByteArray)) := (kce BK137.out 1).trans rfl; have hfz30_0 := kfr BK137.out 0; have hfz30_1 := kfr BK137.out 1))
                have n0_ : Aside0 (Kd.R Kd.string 9 ((w27.setCell ⟨gb137, 0, none⟩ (.int .i64 ((rd_T55 l0_1 (rd l1 x17_1)).f0))).setCell ⟨gb137, 1, none⟩ (.string ((rd_T55 l0_1 (rd l1 x17_1)).f1))) w.heap.size (fun _ => True) v133 x7_1) := ⟨by (with_reducible repeat (first | apply kra | apply krn | apply krd)); exact Kd.R_mono (kfa (p := ⟨gb137, 1, none⟩) (kfa (p := ⟨gb137, 0, none⟩) (Kd.R_types HO_7.out BK137.out (by decide)) (fun _ hk => hk.2) (.int .i64 ((rd_T55 l0_1 (rd l1 x17_1)).f0))) (fun _ hk => hk.2) (.string ((rd_T55 l0_1 (rd l1 x17_1)).f1))) (fun _ hk => trivial)⟩
                have n1_ : Aside0 (((w27.setCell ⟨gb137, 0, none⟩ (.int .i64 ((rd_T55 l0_1 (rd l1 x17_1)).f0))).setCell ⟨gb137, 1, none⟩ (.string ((rd_T55 l0_1 (rd l1 x17_1)).f1))).heap[gb130]? = some (.cells #[.slice A0_0 l0_0.length c0_0, .slice (some ad136) l0_1.length c0_1] 30 (0, 0))) := ⟨by (with_reducible repeat (first | apply kdn | apply kdr | apply kal)); refine blk_far ?_ NB130_137.out _; (with_reducible repeat (first | apply kdn | apply kdr | apply kal)); refine blk_far ?_ NB130_137.out _; (with_reducible repeat (first | apply kdn | apply kdr | apply kal)); exact BK130.out⟩
                have n2_ : Aside0 (((w27.setCell ⟨gb137, 0, none⟩ (.int .i64 ((rd_T55 l0_1 (rd l1 x17_1)).f0))).setCell ⟨gb137, 1, none⟩ (.string ((rd_T55 l0_1 (rd l1 x17_1)).f1))).heap[gb131]? = some (.cells #[.slice none 0 0, .slice none 0 0] 30 (0, 0))) := ⟨by (with_reducible repeat (first | apply kdn | apply kdr | apply kal)); refine blk_far ?_ NB131_137.out _; (with_reducible repeat (first | apply kdn | apply kdr | apply kal)); refine blk_far ?_ NB131_137.out _; (with_reducible repeat (first | apply kdn | apply kdr | apply kal)); exact BK131.out⟩
                have n3_ : Aside0 (((w27.setCell ⟨gb137, 0, none⟩ (.int .i64 ((rd_T55 l0_1 (rd l1 x17_1)).f0))).setCell ⟨gb137, 1, none⟩ (.string ((rd_T55 l0_1 (rd l1 x17_1)).f1))).heap[gb137]? = some (.cells #[.int .i64 ((rd_T55 l0_1 (rd l1 x17_1)).f0), .string ((rd_T55 l0_1 (rd l1 x17_1)).f1)] 55 (0, 0))) := ⟨by (with_reducible repeat (first | apply kdn | apply kdr | apply kal)); refine blk_put (cs := #[.int .i64 ((rd_T55 l0_1 (rd l1 x17_1)).f0), .string (⟨#[]⟩ : ByteArray)]) ?_ 1 _ rfl; (with_reducible repeat (first | apply kdn | apply kdr | apply kal)); refine blk_put (cs := #[.int .i64 0, .string (⟨#[]⟩ : ByteArray)]) ?_ 0 _ rfl; (with_reducible repeat (first | apply kdn | apply kdr | apply kal)); exact BK137.out⟩
                have n4_ : Aside0 (Below w.heap.size w ((w27.setCell ⟨gb137, 0, none⟩ (.int .i64 ((rd_T55 l0_1 (rd l1 x17_1)).f0))).setCell ⟨gb137, 1, none⟩ (.string ((rd_T55 l0_1 (rd l1 x17_1)).f1)))) := ⟨by repeat (first | (with_reducible first | exact HB.out | apply bal | apply pdn | apply bd1 | refine bst ?_ GE130.out | refine bst ?_ GE131.out | refine bst ?_ GE137.out) | exact HB.out)⟩
                (try clear HO_7)
                (try clear BK130)
                (try clear BK131)
                (try clear BK137)
                (try clear HB)
                generalize ((w27.setCell ⟨gb137, 0, none⟩ (.int .i64 ((rd_T55 l0_1 (rd l1 x17_1)).f0))).setCell ⟨gb137, 1, none⟩ (.string ((rd_T55 l0_1 (rd l1 x17_1)).f1))) = w31 at n0_ n1_ n2_ n3_ n4_ ⊢
                have HO_7 := n0_
                have BK130 := n1_
                have BK131 := n2_
                have BK137 := n3_
                have HB := n4_
                clear n0_ n1_ n2_ n3_ n4_
                have n0_ := am (krd HO_7.out)
                have n1_ := am (kdr BK130.out)
                have n2_ := am (kdr BK131.out)
                have n3_ := am (kdr BK137.out)
                have n4_ := am (bd1 HB.out)
                clear HO_7
                clear BK130
                clear BK131
                clear BK137
                clear HB
                have HO_7 := n0_
                have BK130 := n1_
                have BK131 := n2_
                have BK137 := n3_
                have HB := n4_
                clear n0_ n1_ n2_ n3_ n4_
                obtain ⟨Ao33, co33, eo33⟩ := Kd.R_slice HO_7.out
                (first | subst eo33 | (injection eo33 with f1_ f2_ f3_; have f4_ := f1_.symm; have f5_ := f3_.symm; clear f1_ f2_ f3_; subst f4_; subst f5_))
                have p138 : 0 ≤ (((rd_T55 l0_1 (rd l1 x17_1)).f0) : Int) := of_decide_eq_true (by first | (with_reducible assumption) | assumption)
                have q138 : ((rd_T55 l0_1 (rd l1 x17_1)).f0) < (x7_1.length : Int) := of_decide_eq_true (by first | (with_reducible assumption) | assumption)
                obtain ⟨ad138, e138, hx138_0⟩ := Kd.at_string (Kd.R_reads' HO_7.out).2.2 ((rd_T55 l0_1 (rd l1 x17_1)).f0) p138 q138
                cases e138
                replace p138 := eq_true p138
                replace q138 := eq_true q138
                have p24 : 0 ≤ (((rd_T55 l0_1 (rd l1 x17_1)).f0) : Int) := of_decide_eq_true (by first | (with_reducible assumption) | assumption)
                have q24 : (((rd_T55 l0_1 (rd l1 x17_1)).f0) : Int) < ((x7_1.length : Int) : Int) := of_decide_eq_true (by first | (with_reducible assumption) | assumption)
                obtain ⟨go24, co24, eo24, gb24, gl24, cl24, HG24⟩ := Kd.R_form HO_7.out (by omega)
                (first | cases eo24 | (injection eo24 with ea_ en_ ec_; (first | subst ea_ | (injection ea_ with ea_; subst ea_)); subst ec_; clear en_))
                have GB24 := am gb24
                have GG24 := am HG24
                clear gb24 gl24 HG24
                (first | simp only [add_plain] at hx138_0 | skip)
                obtain ⟨hx24_0, hf24_0⟩ := Kd.R_celln (⟨#[]⟩ : ByteArray) HO_7.out (((rd_T55 l0_1 (rd l1 x17_1)).f0) : Int) p24 q24
                replace p24 := eq_true p24
                replace q24 := eq_true q24
                have HP34 := Kd.R_putn HO_7.out (((rd_T55 l0_1 (rd l1 x17_1)).f0) : Int) ((((rd_T55 l0_1 (rd l1 x17_1)).f1).extract 0 (a2 : Int).toNat) ++ ((rdOf ByteArray.empty x7_1 ((rd_T55 l0_1 (rd l1 x17_1)).f0)).extract (a2 : Int).toNat (rdOf ByteArray.empty x7_1 ((rd_T55 l0_1 (rd l1 x17_1)).f0)).size))
                rw [← Ny139.out] at HP34
                have HQ34 := am HP34
                clear HP34
                refine start_ (n := 17) (S := fun w' => w'.cell? ⟨gb137, 0, none⟩ = some (.int .i64 ((rd_T55 l0_1 (rd l1 x17_1)).f0)) ∧ w'.cell? ⟨gb137, 1, none⟩ = some (.string ((rd_T55 l0_1 (rd l1 x17_1)).f1)) ∧ w'.cell? ⟨go24, (((rd_T55 l0_1 (rd l1 x17_1)).f0)).toNat, none⟩ = some (.string (rdOf ByteArray.empty x7_1 ((rd_T55 l0_1 (rd l1 x17_1)).f0)))) (ds := [16]) #[false, false, false, false, false, false, false, false, false, false, false, false, false, false, false, false, false] (by kernel_rfl) rfl rfl ⟨(kce BK137.out 0).trans rfl, (kce BK137.out 1).trans rfl, hx138_0⟩ (fun hHeld => ?_); refine with_tabW impl_Disk_lost.tab9 impl_Disk_lost.bits9 (fun HT_ HW_ => ?_)
                generalize w31.drew = w32 at HO_7 BK130 BK131 BK137 HB GG24 HQ34 hf24_0 hx138_0 hx24_0 hHeld ⊢
                refine pure_ (i := 0) (N := some 37) (v := ?_) (a' := ?_) #[true, false, false, false, false, false, false, false, false, false, false, false, false, false, false, false, false] rfl rfl (any_of HT_.out (by kernel_rfl)) (fun _ _ _ h => h) (Or.inl ⟨by rfl, ?_⟩) ?_ ?_
                rotate_left
                ·intro w'
                 go_simp
                 with_reducible rfl
                rotate_left
                ·simp only [Act.put, sit, scz, scs, i64_w, i32_w]
                 rfl
                refine pure_ (i := 1) (N := some 38) (v := ?_) (a' := ?_) #[true, true, false, false, false, false, false, false, false, false, false, false, false, false, false, false, false] rfl rfl (any_of HT_.out (by kernel_rfl)) (fun _ _ _ h => h) (Or.inl ⟨by rfl, ?_⟩) ?_ ?_
                rotate_left
                ·intro w'
                 go_simp
                 with_reducible rfl
                rotate_left
                ·simp only [Act.put, sit, scz, scs, i64_w, i32_w]
                 rfl
                refine pure_ (i := 3) (N := some 40) (v := ?_) (a' := ?_) #[true, true, false, true, false, false, false, false, false, false, false, false, false, false, false, false, false] rfl rfl (any_of HT_.out (by kernel_rfl)) (fun _ _ _ h => h) (Or.inl ⟨by rfl, ?_⟩) ?_ ?_
                rotate_left
                ·intro w'
                 go_simp
                 with_reducible rfl
                rotate_left
                ·simp only [Act.put, sit, scz, scs, i64_w, i32_w]
                 rfl
                refine pure_ (i := 5) (N := some 42) (v := ?_) (a' := ?_) #[true, true, false, true, false, true, false, false, false, false, false, false, false, false, false, false, false] rfl rfl (any_of HT_.out (by kernel_rfl)) (fun _ _ _ h => h) (Or.inl ⟨by rfl, ?_⟩) ?_ ?_
                rotate_left
                ·intro w'
                 go_simp
                 with_reducible rfl
                rotate_left
                ·simp only [Act.put, sit, scz, scs, i64_w, i32_w]
                 rfl
                refine pure_ (i := 7) (N := some 44) (v := ?_) (a' := ?_) #[true, true, false, true, false, true, false, true, false, false, false, false, false, false, false, false, false] rfl rfl (any_of HT_.out (by kernel_rfl)) (fun _ _ _ h => h) (Or.inl ⟨by rfl, ?_⟩) ?_ ?_
                rotate_left
                ·intro w'
                 go_simp
                 with_reducible rfl
                rotate_left
                ·simp only [Act.put, sit, scz, scs, i64_w, i32_w]
                 rfl
                refine pure_ (i := 8) (N := some 45) (v := ?_) (a' := ?_) #[true, true, false, true, false, true, false, true, true, false, false, false, false, false, false, false, false] rfl rfl (any_of HT_.out (by kernel_rfl)) (fun _ _ _ h => h) (Or.inl ⟨by rfl, ?_⟩) ?_ ?_
                rotate_left
                ·intro w'
                 go_simp
                 with_reducible rfl
                rotate_left
                ·simp only [Act.put, sit, scz, scs, i64_w, i32_w]
                 rfl
                refine pure_ (i := 12) (N := some 49) (v := ?_) (a' := ?_) #[true, true, false, true, false, true, false, true, true, false, false, false, true, false, false, false, false] rfl rfl (any_of HT_.out (by kernel_rfl)) (fun _ _ _ h => h) (Or.inl ⟨by rfl, ?_⟩) ?_ ?_
                rotate_left
                ·intro w'
                 go_simp
                 with_reducible rfl
                rotate_left
                ·simp only [Act.put, sit, scz, scs, i64_w, i32_w]
                 rfl
                refine take_ (i := 2) (N := some 39) (v := ?_) (a' := ?_) #[true, true, true, true, false, true, false, true, true, false, false, false, true, false, false, false, false] rfl rfl (take_ofW HT_.out HW_.out (by kernel_rfl)) (fun _ _ _ h => h) (Or.inl ⟨by rfl, ?_⟩) hHeld ?_ ?_
                rotate_left
                ·rintro w' ⟨s0, s1, s2⟩
                 go_simp
                 with_reducible rfl
                rotate_left
                ·simp only [Act.put, sit, scz, scs, i64_w, i32_w]
                 rfl
                refine take_ (i := 4) (N := some 41) (v := ?_) (a' := ?_) #[true, true, true, true, true, true, false, true, true, false, false, false, true, false, false, false, false] rfl rfl (take_ofW HT_.out HW_.out (by kernel_rfl)) (fun _ _ _ h => h) (Or.inl ⟨by rfl, ?_⟩) hHeld ?_ ?_
                rotate_left
                ·rintro w' ⟨s0, s1, s2⟩
                 go_simp
                 with_reducible rfl
                rotate_left
                ·simp only [Act.put, sit, scz, scs, i64_w, i32_w]
                 rfl
                refine pure_ (i := 6) (N := some 43) (v := ?_) (a' := ?_) #[true, true, true, true, true, true, true, true, true, false, false, false, true, false, false, false, false] rfl rfl (any_of HT_.out (by kernel_rfl)) (fun _ _ _ h => h) (Or.inl ⟨by rfl, ?_⟩) ?_ ?_
                rotate_left
                ·intro w'
                 go_simp
                 with_reducible rfl
                rotate_left
                ·simp only [Act.put, sit, scz, scs, i64_w, i32_w]
                 rfl
                refine take_ (i := 9) (N := some 46) (v := ?_) (a' := ?_) #[true, true, true, true, true, true, true, true, true, true, false, false, true, false, false, false, false] rfl rfl (take_ofW HT_.out HW_.out (by kernel_rfl)) (fun _ _ _ h => h) (Or.inl ⟨by rfl, ?_⟩) hHeld ?_ ?_
                rotate_left
                ·rintro w' ⟨s0, s1, s2⟩
                 go_simp
                 with_reducible rfl
                rotate_left
                ·simp only [Act.put, sit, scz, scs, i64_w, i32_w]
                 rfl
                refine pure_ (i := 10) (N := some 47) (v := ?_) (a' := ?_) #[true, true, true, true, true, true, true, true, true, true, true, false, true, false, false, false, false] rfl rfl (any_of HT_.out (by kernel_rfl)) (fun _ _ _ h => h) (Or.inl ⟨by rfl, ?_⟩) ?_ ?_
                rotate_left
                ·intro w'
                 go_simp
                 with_reducible rfl
                rotate_left
                ·simp only [Act.put, sit, scz, scs, i64_w, i32_w]
                 rfl
                refine take_ (i := 11) (N := some 48) (v := ?_) (a' := ?_) #[true, true, true, true, true, true, true, true, true, true, true, true, true, false, false, false, false] rfl rfl (take_ofW HT_.out HW_.out (by kernel_rfl)) (fun _ _ _ h => h) (Or.inl ⟨by rfl, ?_⟩) hHeld ?_ ?_
                rotate_left
                ·rintro w' ⟨s0, s1, s2⟩
                 go_simp
                 with_reducible rfl
                rotate_left
                ·simp only [Act.put, sit, scz, scs, i64_w, i32_w]
                 rfl
                refine pure_ (i := 13) (N := some 50) (v := ?_) (a' := ?_) #[true, true, true, true, true, true, true, true, true, true, true, true, true, true, false, false, false] rfl rfl (any_of HT_.out (by kernel_rfl)) (fun _ _ _ h => h) (Or.inl ⟨by rfl, ?_⟩) ?_ ?_
                rotate_left
                ·intro w'
                 go_simp
                 with_reducible rfl
                rotate_left
                ·simp only [Act.put, sit, scz, scs, i64_w, i32_w]
                 rfl
                refine pure_ (i := 14) (N := some 51) (v := ?_) (a' := ?_) #[true, true, true, true, true, true, true, true, true, true, true, true, true, true, true, false, false] rfl rfl (any_of HT_.out (by kernel_rfl)) (fun _ _ _ h => h) (Or.inl ⟨by rfl, ?_⟩) ?_ ?_
                rotate_left
                ·intro w'
                 go_simp
                 with_reducible rfl
                rotate_left
                ·simp only [Act.put, sit, scz, scs, i64_w, i32_w]
                 rfl
                refine pure_ (i := 15) (N := some 52) (v := ?_) (a' := ?_) #[true, true, true, true, true, true, true, true, true, true, true, true, true, true, true, true, false] rfl rfl (any_of HT_.out (by kernel_rfl)) (fun _ _ _ h => h) (Or.inl ⟨by rfl, ?_⟩) ?_ ?_
                rotate_left
                ·intro w'
                 go_simp
                 with_reducible rfl
                rotate_left
                ·simp only [Act.put, sit, scz, scs, i64_w, i32_w]
                 rfl
                refine last_ (i := 16) (N := none) #[true, true, true, true, true, true, true, true, true, true, true, true, true, true, true, true, true] rfl rfl (one_of HT_.out (by kernel_rfl)) (by decide) (fun K hK => ?_)
                refine skip_ (w1 := ?_) (by rfl) rfl ?_ ?_
                rotate_left
                ·go_simp
                 rfl
                refine hK.out _ _ ?_
                clear hK K
                refine done_ (done_of HT_.out (by kernel_rfl)) ?_
                try go_wp2
                go_roundg k1
                case measure => have := HK1.out; omega
                case rel => exact ⟨(y139), (wrap64 (x17_1 + 1)), (by first | rfl | (simp; done) | (simp [*]; done)), H', ⟨by have := HK1.out; omega⟩, ⟨by (with_reducible repeat (first | apply kra | apply krn | apply krd)); exact HQ34.out⟩, ⟨by (with_reducible repeat (first | apply kdn | apply kdr | apply kal)); refine blk_far ?_ (by have h_ := Kd.R_ne HO_7.out BK130.out (by decide); intro e_; exact h_ (by rw [e_]; rfl)) _; (with_reducible repeat (first | apply kdn | apply kdr | apply kal)); exact BK130.out⟩, ⟨by (with_reducible repeat (first | apply kdn | apply kdr | apply kal)); refine blk_far ?_ (by have h_ := Kd.R_ne HO_7.out BK131.out (by decide); intro e_; exact h_ (by rw [e_]; rfl)) _; (with_reducible repeat (first | apply kdn | apply kdr | apply kal)); exact BK131.out⟩, ⟨by repeat (first | (with_reducible first | exact HB.out | apply bal | apply pdn | apply bd1 | refine bst ?_ GB24.out | refine bst ?_ GE130.out | refine bst ?_ GE131.out | refine bst ?_ GE137.out) | exact HB.out)⟩⟩
               ·rw [if_neg c23] at H
                exact absurd H (by simp)
              ·rw [if_neg c22] at H
               exact absurd H (by simp)
             ·rw [if_neg c20] at H
              exact absurd H (by simp)
            ·rw [if_neg c19] at H
             exact absurd H (by simp)
           ·rw [if_neg c18] at H
            exact absurd H (by simp)
          ·rw [if_neg c17] at H
           exact absurd H (by simp)
         ·rw [if_neg c16] at H
          have c16b0 : decide (0 ≤ a2) = false := decide_eq_false c16
          clear c16
          by_cases c35 : 0 ≤ 64
          ·rw [if_pos c35] at H
           have c35b0 := eq_true c35
           have c35b1 : decide (0 ≤ 64) = true := decide_eq_true c35
           clear c35
           by_cases c36 : 64 ≤ (((rd_T55 l0_1 (rd l1 x17_1)).f1).size : Int)
           ·rw [if_pos c36] at H
            have c36b0 := eq_true c36
            have c36b1 : decide (64 ≤ (((rd_T55 l0_1 (rd l1 x17_1)).f1).size : Int)) = true := decide_eq_true c36
            clear c36
            by_cases c37 : 0 ≤ ((rd_T55 l0_1 (rd l1 x17_1)).f0)
            ·rw [if_pos c37] at H
             have c37b0 : decide (0 ≤ ((rd_T55 l0_1 (rd l1 x17_1)).f0)) = true := decide_eq_true c37
             clear c37
             by_cases c38 : ((rd_T55 l0_1 (rd l1 x17_1)).f0) < (x7_1.length : Int)
             ·rw [if_pos c38] at H
              have c38b0 : decide (((rd_T55 l0_1 (rd l1 x17_1)).f0) < (x7_1.length : Int)) = true := decide_eq_true c38
              clear c38
              by_cases c39 : 64 ≤ ((rdOf ByteArray.empty x7_1 ((rd_T55 l0_1 (rd l1 x17_1)).f0)).size : Int)
              ·rw [if_pos c39] at H
               have c39b0 := eq_true c39
               have c39b1 : decide (64 ≤ ((rdOf ByteArray.empty x7_1 ((rd_T55 l0_1 (rd l1 x17_1)).f0)).size : Int)) = true := decide_eq_true c39
               clear c39
               by_cases c40 : (((rd_T55 l0_1 (rd l1 x17_1)).f1).extract 0 64).size + ((rdOf ByteArray.empty x7_1 ((rd_T55 l0_1 (rd l1 x17_1)).f0)).extract 64 (rdOf ByteArray.empty x7_1 ((rd_T55 l0_1 (rd l1 x17_1)).f0)).size).size ≤ 9223372036854775807
               ·rw [if_pos c40] at H
                try have c40x : (9223372036854775807 < (rdOf ByteArray.empty x7_1 ((rd_T55 l0_1 (rd l1 x17_1)).f0)).size) = False := eq_false (by have z_ := c40; have z1_ : (64 : Int) ≤ (((rd_T55 l0_1 (rd l1 x17_1)).f1).size : Int) := of_decide_eq_true (by assumption); have z2_ : (64 : Int) ≤ ((rdOf ByteArray.empty x7_1 ((rd_T55 l0_1 (rd l1 x17_1)).f0)).size : Int) := of_decide_eq_true (by assumption); simp only [ByteArray.size_extract] at z_; omega)
                try have c40w : (9223372036854775807 < min 64 ((rd_T55 l0_1 (rd l1 x17_1)).f1).size + ((rdOf ByteArray.empty x7_1 ((rd_T55 l0_1 (rd l1 x17_1)).f0)).size - 64)) = False := eq_false (by have z_ := c40; simp only [ByteArray.size_extract] at z_; omega)
                have c40b0 := eq_true c40
                have c40b1 : decide ((((rd_T55 l0_1 (rd l1 x17_1)).f1).extract 0 64).size + ((rdOf ByteArray.empty x7_1 ((rd_T55 l0_1 (rd l1 x17_1)).f0)).extract 64 (rdOf ByteArray.empty x7_1 ((rd_T55 l0_1 (rd l1 x17_1)).f0)).size).size ≤ 9223372036854775807) = true := decide_eq_true c40
                try have c40b2 : (9223372036854775807 < (((rd_T55 l0_1 (rd l1 x17_1)).f1).extract 0 64).size + ((rdOf ByteArray.empty x7_1 ((rd_T55 l0_1 (rd l1 x17_1)).f0)).extract 64 (rdOf ByteArray.empty x7_1 ((rd_T55 l0_1 (rd l1 x17_1)).f0)).size).size) = False := eq_false (Nat.not_lt.2 c40)
                obtain ⟨y141, hy141⟩ : ∃ y_ : List ByteArray, y_ = (x7_1.set (((rd_T55 l0_1 (rd l1 x17_1)).f0) : Int).toNat ((((rd_T55 l0_1 (rd l1 x17_1)).f1).extract 0 64) ++ ((rdOf ByteArray.empty x7_1 ((rd_T55 l0_1 (rd l1 x17_1)).f0)).extract 64 (rdOf ByteArray.empty x7_1 ((rd_T55 l0_1 (rd l1 x17_1)).f0)).size))) := ⟨_, rfl⟩
                replace H : (impl_Disk_lost.l0 k1 l1 a2 y141 l1 (l1.length : Int) (wrap64 (x17_1 + 1)) l0_0 l0_1) = some (r1, r2) := by first | (rw [hy141]; with_reducible exact H) | (have H2_ := (Option.bind_some _ _).symm.trans H; rw [hy141]; with_reducible exact H2_) | (have H2_ := (Option.bind_some _ _).symm.trans H; with_reducible exact H2_) | with_reducible exact H | (rw [hy141]; exact H) | exact H
                have Ny141 := am hy141
                clear hy141
                have H' := am H
                clear H
                have p135 : 0 ≤ (x17_1 : Int) := of_decide_eq_true (by first | (with_reducible assumption) | assumption)
                have q135 : x17_1 < (l1.length : Int) := of_decide_eq_true (by first | (with_reducible assumption) | assumption)
                obtain ⟨ad135, e135, hx135_0⟩ := Kd.at_int HR1.out x17_1 p135 q135
                cases e135
                replace hx135_0 := (HB.out.cell (blc w _ hx135_0)).trans hx135_0
                replace p135 := eq_true p135
                replace q135 := eq_true q135
                have hnb42 := NB130_131.out
                have hnc42 := NB131_130.out
                have hcz43_0 : wr.cell? ⟨gb130, 0, none⟩ = some (.slice A0_0 l0_0.length c0_0) := (kce BK130.out 0).trans rfl
                have hcz43_1 : wr.cell? ⟨gb130, 1, none⟩ = some (.slice A0_1 l0_1.length c0_1) := (kce BK130.out 1).trans rfl
                have hfz43_0 := kfr BK130.out 0
                have hfz43_1 := kfr BK130.out 1
                have p136 : 0 ≤ ((rd l1 x17_1) : Int) := of_decide_eq_true (by first | (with_reducible assumption) | assumption)
                have q136 : (rd l1 x17_1) < (l0_1.length : Int) := of_decide_eq_true (by first | (with_reducible assumption) | assumption)
                obtain ⟨ad136, e136, hx136_0, hx136_1⟩ := at_T55 HR0_1.out (rd l1 x17_1) p136 q136
                cases e136
                replace hx136_0 := (HB.out.cell (blc w _ hx136_0)).trans hx136_0
                replace hx136_1 := (HB.out.cell (blc w _ hx136_1)).trans hx136_1
                replace p136 := eq_true p136
                replace q136 := eq_true q136
                try go_wp2_with (first | ((with_reducible refine gate_dst (N := 10) rfl ?_); refine box_event ?hg (N := 10) ?hd (cs := #[.int .i64 0, .string (⟨#[]⟩ : ByteArray)]) (t := 55) ?hr ?_; (case hd => rfl); (case hg => rfl); (case hr => first | (go_simp; done) | (go_simp; rfl)); intro gb137 hg w44 hbox hb; have n0_ := am (krb (by (with_reducible repeat (first | apply kra | apply krn | apply krd)); exact HO_7.out) hb); have n1_ := am (kbb (g := gb130) (o := .cells #[.slice A0_0 l0_0.length c0_0, .slice (some ad136) l0_1.length c0_1] 30 (0, 0)) (by (with_reducible repeat (first | apply kdn | apply kdr | apply kal)); exact BK130.out) hb); have n2_ := am (kbb (g := gb131) (o := .cells #[.slice none 0 0, .slice none 0 0] 30 (0, 0)) (by (with_reducible repeat (first | apply kdn | apply kdr | apply kal)); exact BK131.out) hb); have n3_ := am (below_step (by repeat (first | (with_reducible first | exact HB.out | apply bal | apply pdn | apply bd1 | refine bst ?_ GE130.out | refine bst ?_ GE131.out) | exact HB.out)) hb); have n4_ := am (hbox); have n5_ := am ((by rw [hg]; exact (below_size (by repeat (first | (with_reducible first | exact HB.out | apply bal | apply pdn | apply bd1 | refine bst ?_ GE130.out | refine bst ?_ GE131.out) | exact HB.out))) : w.heap.size ≤ gb137)); have n6_ := am ((by rw [hg]; exact (below_size (by repeat (first | (with_reducible first | exact HB.out | apply bal | apply pdn | apply bd1 | refine bst ?_ GE130.out | refine bst ?_ GE131.out) | exact HB.out))) : w.heap.size ≤ gb137)); have n7_ := am ((by rw [hg]; exact Nat.ne_of_lt (blk_lt (g := gb130) (o := .cells #[.slice A0_0 l0_0.length c0_0, .slice (some ad136) l0_1.length c0_1] 30 (0, 0)) (by (with_reducible repeat (first | apply kdn | apply kdr | apply kal)); exact BK130.out)) : gb130 ≠ gb137)); have n8_ := am ((by rw [hg]; exact Nat.ne_of_gt (blk_lt (g := gb130) (o := .cells #[.slice A0_0 l0_0.length c0_0, .slice (some ad136) l0_1.length c0_1] 30 (0, 0)) (by (with_reducible repeat (first | apply kdn | apply kdr | apply kal)); exact BK130.out)) : gb137 ≠ gb130)); have n9_ := am ((by rw [hg]; exact Nat.ne_of_lt (blk_lt (g := gb131) (o := .cells #[.slice none 0 0, .slice none 0 0] 30 (0, 0)) (by (with_reducible repeat (first | apply kdn | apply kdr | apply kal)); exact BK131.out)) : gb131 ≠ gb137)); have n10_ := am ((by rw [hg]; exact Nat.ne_of_gt (blk_lt (g := gb131) (o := .cells #[.slice none 0 0, .slice none 0 0] 30 (0, 0)) (by (with_reducible repeat (first | apply kdn | apply kdr | apply kal)); exact BK131.out)) : gb137 ≠ gb131)); clear HO_7; clear BK130; clear BK131; clear HB; have HO_7 := n0_; have BK130 := n1_; have BK131 := n2_; have HB := n3_; have BK137 := n4_; have GW137 := n5_; have GE137 := n6_; have NB130_137 := n7_; have NB137_130 := n8_; have NB131_137 := n9_; have NB137_131 := n10_; clear n0_ n1_ n2_ n3_ n4_ n5_ n6_ n7_ n8_ n9_ n10_; clear hb hbox hg; have hnb45 := NB137_130.out; have hnc45 := NB130_137.out; have hnb46 := NB137_131.out; have hnc46 := NB131_137.out; have hcz47_0 : w44.cell? ⟨gb137, 0, none⟩ = some (.int .i64 0) := (kce BK137.out 0).trans rfl; have hcz47_1 : w44.cell? ⟨gb137, 1, none⟩ = some (.string (⟨#[]⟩ : ByteArray)) := (kce BK137.out 1).trans rfl; have hfz47_0 := kfr BK137.out 0; have hfz47_1 := kfr BK137.out 1))
                have n0_ : Aside0 (Kd.R Kd.string 9 ((w44.setCell ⟨gb137, 0, none⟩ (.int .i64 ((rd_T55 l0_1 (rd l1 x17_1)).f0))).setCell ⟨gb137, 1, none⟩ (.string ((rd_T55 l0_1 (rd l1 x17_1)).f1))) w.heap.size (fun _ => True) v133 x7_1) := ⟨by (with_reducible repeat (first | apply kra | apply krn | apply krd)); exact Kd.R_mono (kfa (p := ⟨gb137, 1, none⟩) (kfa (p := ⟨gb137, 0, none⟩) (Kd.R_types HO_7.out BK137.out (by decide)) (fun _ hk => hk.2) (.int .i64 ((rd_T55 l0_1 (rd l1 x17_1)).f0))) (fun _ hk => hk.2) (.string ((rd_T55 l0_1 (rd l1 x17_1)).f1))) (fun _ hk => trivial)⟩
                have n1_ : Aside0 (((w44.setCell ⟨gb137, 0, none⟩ (.int .i64 ((rd_T55 l0_1 (rd l1 x17_1)).f0))).setCell ⟨gb137, 1, none⟩ (.string ((rd_T55 l0_1 (rd l1 x17_1)).f1))).heap[gb130]? = some (.cells #[.slice A0_0 l0_0.length c0_0, .slice (some ad136) l0_1.length c0_1] 30 (0, 0))) := ⟨by (with_reducible repeat (first | apply kdn | apply kdr | apply kal)); refine blk_far ?_ NB130_137.out _; (with_reducible repeat (first | apply kdn | apply kdr | apply kal)); refine blk_far ?_ NB130_137.out _; (with_reducible repeat (first | apply kdn | apply kdr | apply kal)); exact BK130.out⟩
                have n2_ : Aside0 (((w44.setCell ⟨gb137, 0, none⟩ (.int .i64 ((rd_T55 l0_1 (rd l1 x17_1)).f0))).setCell ⟨gb137, 1, none⟩ (.string ((rd_T55 l0_1 (rd l1 x17_1)).f1))).heap[gb131]? = some (.cells #[.slice none 0 0, .slice none 0 0] 30 (0, 0))) := ⟨by (with_reducible repeat (first | apply kdn | apply kdr | apply kal)); refine blk_far ?_ NB131_137.out _; (with_reducible repeat (first | apply kdn | apply kdr | apply kal)); refine blk_far ?_ NB131_137.out _; (with_reducible repeat (first | apply kdn | apply kdr | apply kal)); exact BK131.out⟩
                have n3_ : Aside0 (((w44.setCell ⟨gb137, 0, none⟩ (.int .i64 ((rd_T55 l0_1 (rd l1 x17_1)).f0))).setCell ⟨gb137, 1, none⟩ (.string ((rd_T55 l0_1 (rd l1 x17_1)).f1))).heap[gb137]? = some (.cells #[.int .i64 ((rd_T55 l0_1 (rd l1 x17_1)).f0), .string ((rd_T55 l0_1 (rd l1 x17_1)).f1)] 55 (0, 0))) := ⟨by (with_reducible repeat (first | apply kdn | apply kdr | apply kal)); refine blk_put (cs := #[.int .i64 ((rd_T55 l0_1 (rd l1 x17_1)).f0), .string (⟨#[]⟩ : ByteArray)]) ?_ 1 _ rfl; (with_reducible repeat (first | apply kdn | apply kdr | apply kal)); refine blk_put (cs := #[.int .i64 0, .string (⟨#[]⟩ : ByteArray)]) ?_ 0 _ rfl; (with_reducible repeat (first | apply kdn | apply kdr | apply kal)); exact BK137.out⟩
                have n4_ : Aside0 (Below w.heap.size w ((w44.setCell ⟨gb137, 0, none⟩ (.int .i64 ((rd_T55 l0_1 (rd l1 x17_1)).f0))).setCell ⟨gb137, 1, none⟩ (.string ((rd_T55 l0_1 (rd l1 x17_1)).f1)))) := ⟨by repeat (first | (with_reducible first | exact HB.out | apply bal | apply pdn | apply bd1 | refine bst ?_ GE130.out | refine bst ?_ GE131.out | refine bst ?_ GE137.out) | exact HB.out)⟩
                (try clear HO_7)
                (try clear BK130)
                (try clear BK131)
                (try clear BK137)
                (try clear HB)
                generalize ((w44.setCell ⟨gb137, 0, none⟩ (.int .i64 ((rd_T55 l0_1 (rd l1 x17_1)).f0))).setCell ⟨gb137, 1, none⟩ (.string ((rd_T55 l0_1 (rd l1 x17_1)).f1))) = w48 at n0_ n1_ n2_ n3_ n4_ ⊢
                have HO_7 := n0_
                have BK130 := n1_
                have BK131 := n2_
                have BK137 := n3_
                have HB := n4_
                clear n0_ n1_ n2_ n3_ n4_
                have n0_ := am (krd HO_7.out)
                have n1_ := am (kdr BK130.out)
                have n2_ := am (kdr BK131.out)
                have n3_ := am (kdr BK137.out)
                have n4_ := am (bd1 HB.out)
                clear HO_7
                clear BK130
                clear BK131
                clear BK137
                clear HB
                have HO_7 := n0_
                have BK130 := n1_
                have BK131 := n2_
                have BK137 := n3_
                have HB := n4_
                clear n0_ n1_ n2_ n3_ n4_
                obtain ⟨Ao50, co50, eo50⟩ := Kd.R_slice HO_7.out
                (first | subst eo50 | (injection eo50 with f1_ f2_ f3_; have f4_ := f1_.symm; have f5_ := f3_.symm; clear f1_ f2_ f3_; subst f4_; subst f5_))
                have p140 : 0 ≤ (((rd_T55 l0_1 (rd l1 x17_1)).f0) : Int) := of_decide_eq_true (by first | (with_reducible assumption) | assumption)
                have q140 : ((rd_T55 l0_1 (rd l1 x17_1)).f0) < (x7_1.length : Int) := of_decide_eq_true (by first | (with_reducible assumption) | assumption)
                obtain ⟨ad140, e140, hx140_0⟩ := Kd.at_string (Kd.R_reads' HO_7.out).2.2 ((rd_T55 l0_1 (rd l1 x17_1)).f0) p140 q140
                cases e140
                replace p140 := eq_true p140
                replace q140 := eq_true q140
                have p41 : 0 ≤ (((rd_T55 l0_1 (rd l1 x17_1)).f0) : Int) := of_decide_eq_true (by first | (with_reducible assumption) | assumption)
                have q41 : (((rd_T55 l0_1 (rd l1 x17_1)).f0) : Int) < ((x7_1.length : Int) : Int) := of_decide_eq_true (by first | (with_reducible assumption) | assumption)
                obtain ⟨go41, co41, eo41, gb41, gl41, cl41, HG41⟩ := Kd.R_form HO_7.out (by omega)
                (first | cases eo41 | (injection eo41 with ea_ en_ ec_; (first | subst ea_ | (injection ea_ with ea_; subst ea_)); subst ec_; clear en_))
                have GB41 := am gb41
                have GG41 := am HG41
                clear gb41 gl41 HG41
                (first | simp only [add_plain] at hx140_0 | skip)
                obtain ⟨hx41_0, hf41_0⟩ := Kd.R_celln (⟨#[]⟩ : ByteArray) HO_7.out (((rd_T55 l0_1 (rd l1 x17_1)).f0) : Int) p41 q41
                replace p41 := eq_true p41
                replace q41 := eq_true q41
                have HP51 := Kd.R_putn HO_7.out (((rd_T55 l0_1 (rd l1 x17_1)).f0) : Int) ((((rd_T55 l0_1 (rd l1 x17_1)).f1).extract 0 64) ++ ((rdOf ByteArray.empty x7_1 ((rd_T55 l0_1 (rd l1 x17_1)).f0)).extract 64 (rdOf ByteArray.empty x7_1 ((rd_T55 l0_1 (rd l1 x17_1)).f0)).size))
                rw [← Ny141.out] at HP51
                have HQ51 := am HP51
                clear HP51
                refine start_ (n := 17) (S := fun w' => w'.cell? ⟨gb137, 0, none⟩ = some (.int .i64 ((rd_T55 l0_1 (rd l1 x17_1)).f0)) ∧ w'.cell? ⟨gb137, 1, none⟩ = some (.string ((rd_T55 l0_1 (rd l1 x17_1)).f1)) ∧ w'.cell? ⟨go41, (((rd_T55 l0_1 (rd l1 x17_1)).f0)).toNat, none⟩ = some (.string (rdOf ByteArray.empty x7_1 ((rd_T55 l0_1 (rd l1 x17_1)).f0)))) (ds := [16]) #[false, false, false, false, false, false, false, false, false, false, false, false, false, false, false, false, false] (by kernel_rfl) rfl rfl ⟨(kce BK137.out 0).trans rfl, (kce BK137.out 1).trans rfl, hx140_0⟩ (fun hHeld => ?_); refine with_tabW impl_Disk_lost.tab9 impl_Disk_lost.bits9 (fun HT_ HW_ => ?_)
                generalize w48.drew = w49 at HO_7 BK130 BK131 BK137 HB GG41 HQ51 hf41_0 hx140_0 hx41_0 hHeld ⊢
                refine pure_ (i := 0) (N := some 37) (v := ?_) (a' := ?_) #[true, false, false, false, false, false, false, false, false, false, false, false, false, false, false, false, false] rfl rfl (any_of HT_.out (by kernel_rfl)) (fun _ _ _ h => h) (Or.inl ⟨by rfl, ?_⟩) ?_ ?_
                rotate_left
                ·intro w'
                 go_simp
                 with_reducible rfl
                rotate_left
                ·simp only [Act.put, sit, scz, scs, i64_w, i32_w]
                 rfl
                refine pure_ (i := 1) (N := some 38) (v := ?_) (a' := ?_) #[true, true, false, false, false, false, false, false, false, false, false, false, false, false, false, false, false] rfl rfl (any_of HT_.out (by kernel_rfl)) (fun _ _ _ h => h) (Or.inl ⟨by rfl, ?_⟩) ?_ ?_
                rotate_left
                ·intro w'
                 go_simp
                 with_reducible rfl
                rotate_left
                ·simp only [Act.put, sit, scz, scs, i64_w, i32_w]
                 rfl
                refine pure_ (i := 3) (N := some 40) (v := ?_) (a' := ?_) #[true, true, false, true, false, false, false, false, false, false, false, false, false, false, false, false, false] rfl rfl (any_of HT_.out (by kernel_rfl)) (fun _ _ _ h => h) (Or.inl ⟨by rfl, ?_⟩) ?_ ?_
                rotate_left
                ·intro w'
                 go_simp
                 with_reducible rfl
                rotate_left
                ·simp only [Act.put, sit, scz, scs, i64_w, i32_w]
                 rfl
                refine pure_ (i := 5) (N := some 42) (v := ?_) (a' := ?_) #[true, true, false, true, false, true, false, false, false, false, false, false, false, false, false, false, false] rfl rfl (any_of HT_.out (by kernel_rfl)) (fun _ _ _ h => h) (Or.inl ⟨by rfl, ?_⟩) ?_ ?_
                rotate_left
                ·intro w'
                 go_simp
                 with_reducible rfl
                rotate_left
                ·simp only [Act.put, sit, scz, scs, i64_w, i32_w]
                 rfl
                refine pure_ (i := 7) (N := some 44) (v := ?_) (a' := ?_) #[true, true, false, true, false, true, false, true, false, false, false, false, false, false, false, false, false] rfl rfl (any_of HT_.out (by kernel_rfl)) (fun _ _ _ h => h) (Or.inl ⟨by rfl, ?_⟩) ?_ ?_
                rotate_left
                ·intro w'
                 go_simp
                 with_reducible rfl
                rotate_left
                ·simp only [Act.put, sit, scz, scs, i64_w, i32_w]
                 rfl
                refine pure_ (i := 8) (N := some 45) (v := ?_) (a' := ?_) #[true, true, false, true, false, true, false, true, true, false, false, false, false, false, false, false, false] rfl rfl (any_of HT_.out (by kernel_rfl)) (fun _ _ _ h => h) (Or.inl ⟨by rfl, ?_⟩) ?_ ?_
                rotate_left
                ·intro w'
                 go_simp
                 with_reducible rfl
                rotate_left
                ·simp only [Act.put, sit, scz, scs, i64_w, i32_w]
                 rfl
                refine pure_ (i := 12) (N := some 49) (v := ?_) (a' := ?_) #[true, true, false, true, false, true, false, true, true, false, false, false, true, false, false, false, false] rfl rfl (any_of HT_.out (by kernel_rfl)) (fun _ _ _ h => h) (Or.inl ⟨by rfl, ?_⟩) ?_ ?_
                rotate_left
                ·intro w'
                 go_simp
                 with_reducible rfl
                rotate_left
                ·simp only [Act.put, sit, scz, scs, i64_w, i32_w]
                 rfl
                refine take_ (i := 2) (N := some 39) (v := ?_) (a' := ?_) #[true, true, true, true, false, true, false, true, true, false, false, false, true, false, false, false, false] rfl rfl (take_ofW HT_.out HW_.out (by kernel_rfl)) (fun _ _ _ h => h) (Or.inl ⟨by rfl, ?_⟩) hHeld ?_ ?_
                rotate_left
                ·rintro w' ⟨s0, s1, s2⟩
                 go_simp
                 with_reducible rfl
                rotate_left
                ·simp only [Act.put, sit, scz, scs, i64_w, i32_w]
                 rfl
                refine take_ (i := 4) (N := some 41) (v := ?_) (a' := ?_) #[true, true, true, true, true, true, false, true, true, false, false, false, true, false, false, false, false] rfl rfl (take_ofW HT_.out HW_.out (by kernel_rfl)) (fun _ _ _ h => h) (Or.inl ⟨by rfl, ?_⟩) hHeld ?_ ?_
                rotate_left
                ·rintro w' ⟨s0, s1, s2⟩
                 go_simp
                 with_reducible rfl
                rotate_left
                ·simp only [Act.put, sit, scz, scs, i64_w, i32_w]
                 rfl
                refine pure_ (i := 6) (N := some 43) (v := ?_) (a' := ?_) #[true, true, true, true, true, true, true, true, true, false, false, false, true, false, false, false, false] rfl rfl (any_of HT_.out (by kernel_rfl)) (fun _ _ _ h => h) (Or.inl ⟨by rfl, ?_⟩) ?_ ?_
                rotate_left
                ·intro w'
                 go_simp
                 with_reducible rfl
                rotate_left
                ·simp only [Act.put, sit, scz, scs, i64_w, i32_w]
                 rfl
                refine take_ (i := 9) (N := some 46) (v := ?_) (a' := ?_) #[true, true, true, true, true, true, true, true, true, true, false, false, true, false, false, false, false] rfl rfl (take_ofW HT_.out HW_.out (by kernel_rfl)) (fun _ _ _ h => h) (Or.inl ⟨by rfl, ?_⟩) hHeld ?_ ?_
                rotate_left
                ·rintro w' ⟨s0, s1, s2⟩
                 go_simp
                 with_reducible rfl
                rotate_left
                ·simp only [Act.put, sit, scz, scs, i64_w, i32_w]
                 rfl
                refine pure_ (i := 10) (N := some 47) (v := ?_) (a' := ?_) #[true, true, true, true, true, true, true, true, true, true, true, false, true, false, false, false, false] rfl rfl (any_of HT_.out (by kernel_rfl)) (fun _ _ _ h => h) (Or.inl ⟨by rfl, ?_⟩) ?_ ?_
                rotate_left
                ·intro w'
                 go_simp
                 with_reducible rfl
                rotate_left
                ·simp only [Act.put, sit, scz, scs, i64_w, i32_w]
                 rfl
                refine take_ (i := 11) (N := some 48) (v := ?_) (a' := ?_) #[true, true, true, true, true, true, true, true, true, true, true, true, true, false, false, false, false] rfl rfl (take_ofW HT_.out HW_.out (by kernel_rfl)) (fun _ _ _ h => h) (Or.inl ⟨by rfl, ?_⟩) hHeld ?_ ?_
                rotate_left
                ·rintro w' ⟨s0, s1, s2⟩
                 go_simp
                 with_reducible rfl
                rotate_left
                ·simp only [Act.put, sit, scz, scs, i64_w, i32_w]
                 rfl
                refine pure_ (i := 13) (N := some 50) (v := ?_) (a' := ?_) #[true, true, true, true, true, true, true, true, true, true, true, true, true, true, false, false, false] rfl rfl (any_of HT_.out (by kernel_rfl)) (fun _ _ _ h => h) (Or.inl ⟨by rfl, ?_⟩) ?_ ?_
                rotate_left
                ·intro w'
                 go_simp
                 with_reducible rfl
                rotate_left
                ·simp only [Act.put, sit, scz, scs, i64_w, i32_w]
                 rfl
                refine pure_ (i := 14) (N := some 51) (v := ?_) (a' := ?_) #[true, true, true, true, true, true, true, true, true, true, true, true, true, true, true, false, false] rfl rfl (any_of HT_.out (by kernel_rfl)) (fun _ _ _ h => h) (Or.inl ⟨by rfl, ?_⟩) ?_ ?_
                rotate_left
                ·intro w'
                 go_simp
                 with_reducible rfl
                rotate_left
                ·simp only [Act.put, sit, scz, scs, i64_w, i32_w]
                 rfl
                refine pure_ (i := 15) (N := some 52) (v := ?_) (a' := ?_) #[true, true, true, true, true, true, true, true, true, true, true, true, true, true, true, true, false] rfl rfl (any_of HT_.out (by kernel_rfl)) (fun _ _ _ h => h) (Or.inl ⟨by rfl, ?_⟩) ?_ ?_
                rotate_left
                ·intro w'
                 go_simp
                 with_reducible rfl
                rotate_left
                ·simp only [Act.put, sit, scz, scs, i64_w, i32_w]
                 rfl
                refine last_ (i := 16) (N := none) #[true, true, true, true, true, true, true, true, true, true, true, true, true, true, true, true, true] rfl rfl (one_of HT_.out (by kernel_rfl)) (by decide) (fun K hK => ?_)
                refine skip_ (w1 := ?_) (by rfl) rfl ?_ ?_
                rotate_left
                ·go_simp
                 rfl
                refine hK.out _ _ ?_
                clear hK K
                refine done_ (done_of HT_.out (by kernel_rfl)) ?_
                try go_wp2
                go_roundg k1
                case measure => have := HK1.out; omega
                case rel => exact ⟨(y141), (wrap64 (x17_1 + 1)), (by first | rfl | (simp; done) | (simp [*]; done)), H', ⟨by have := HK1.out; omega⟩, ⟨by (with_reducible repeat (first | apply kra | apply krn | apply krd)); exact HQ51.out⟩, ⟨by (with_reducible repeat (first | apply kdn | apply kdr | apply kal)); refine blk_far ?_ (by have h_ := Kd.R_ne HO_7.out BK130.out (by decide); intro e_; exact h_ (by rw [e_]; rfl)) _; (with_reducible repeat (first | apply kdn | apply kdr | apply kal)); exact BK130.out⟩, ⟨by (with_reducible repeat (first | apply kdn | apply kdr | apply kal)); refine blk_far ?_ (by have h_ := Kd.R_ne HO_7.out BK131.out (by decide); intro e_; exact h_ (by rw [e_]; rfl)) _; (with_reducible repeat (first | apply kdn | apply kdr | apply kal)); exact BK131.out⟩, ⟨by repeat (first | (with_reducible first | exact HB.out | apply bal | apply pdn | apply bd1 | refine bst ?_ GB41.out | refine bst ?_ GE130.out | refine bst ?_ GE131.out | refine bst ?_ GE137.out) | exact HB.out)⟩⟩
               ·rw [if_neg c40] at H
                exact absurd H (by simp)
              ·rw [if_neg c39] at H
               exact absurd H (by simp)
             ·rw [if_neg c38] at H
              exact absurd H (by simp)
            ·rw [if_neg c37] at H
             exact absurd H (by simp)
           ·rw [if_neg c36] at H
            exact absurd H (by simp)
          ·rw [if_neg c35] at H
           exact absurd H (by simp)
        ·rw [if_neg c15] at H
         have c15b0 : (x17_1 == (wrap64 ((l1.length : Int) - 1))) = false := beq_eq_false_iff_ne.mpr c15
         have c15b1 : (x17_1 != (wrap64 ((l1.length : Int) - 1))) = true := bne_iff_ne.mpr c15
         by_cases c52 : 0 ≤ 64
         ·rw [if_pos c52] at H
          have c52b0 := eq_true c52
          have c52b1 : decide (0 ≤ 64) = true := decide_eq_true c52
          clear c52
          by_cases c53 : 64 ≤ (((rd_T55 l0_1 (rd l1 x17_1)).f1).size : Int)
          ·rw [if_pos c53] at H
           have c53b0 := eq_true c53
           have c53b1 : decide (64 ≤ (((rd_T55 l0_1 (rd l1 x17_1)).f1).size : Int)) = true := decide_eq_true c53
           clear c53
           by_cases c54 : 0 ≤ ((rd_T55 l0_1 (rd l1 x17_1)).f0)
           ·rw [if_pos c54] at H
            have c54b0 : decide (0 ≤ ((rd_T55 l0_1 (rd l1 x17_1)).f0)) = true := decide_eq_true c54
            clear c54
            by_cases c55 : ((rd_T55 l0_1 (rd l1 x17_1)).f0) < (x7_1.length : Int)
            ·rw [if_pos c55] at H
             have c55b0 : decide (((rd_T55 l0_1 (rd l1 x17_1)).f0) < (x7_1.length : Int)) = true := decide_eq_true c55
             clear c55
             by_cases c56 : 64 ≤ ((rdOf ByteArray.empty x7_1 ((rd_T55 l0_1 (rd l1 x17_1)).f0)).size : Int)
             ·rw [if_pos c56] at H
              have c56b0 := eq_true c56
              have c56b1 : decide (64 ≤ ((rdOf ByteArray.empty x7_1 ((rd_T55 l0_1 (rd l1 x17_1)).f0)).size : Int)) = true := decide_eq_true c56
              clear c56
              by_cases c57 : (((rd_T55 l0_1 (rd l1 x17_1)).f1).extract 0 64).size + ((rdOf ByteArray.empty x7_1 ((rd_T55 l0_1 (rd l1 x17_1)).f0)).extract 64 (rdOf ByteArray.empty x7_1 ((rd_T55 l0_1 (rd l1 x17_1)).f0)).size).size ≤ 9223372036854775807
              ·rw [if_pos c57] at H
               try have c57x : (9223372036854775807 < (rdOf ByteArray.empty x7_1 ((rd_T55 l0_1 (rd l1 x17_1)).f0)).size) = False := eq_false (by have z_ := c57; have z1_ : (64 : Int) ≤ (((rd_T55 l0_1 (rd l1 x17_1)).f1).size : Int) := of_decide_eq_true (by assumption); have z2_ : (64 : Int) ≤ ((rdOf ByteArray.empty x7_1 ((rd_T55 l0_1 (rd l1 x17_1)).f0)).size : Int) := of_decide_eq_true (by assumption); simp only [ByteArray.size_extract] at z_; omega)
               try have c57w : (9223372036854775807 < min 64 ((rd_T55 l0_1 (rd l1 x17_1)).f1).size + ((rdOf ByteArray.empty x7_1 ((rd_T55 l0_1 (rd l1 x17_1)).f0)).size - 64)) = False := eq_false (by have z_ := c57; simp only [ByteArray.size_extract] at z_; omega)
               have c57b0 := eq_true c57
               have c57b1 : decide ((((rd_T55 l0_1 (rd l1 x17_1)).f1).extract 0 64).size + ((rdOf ByteArray.empty x7_1 ((rd_T55 l0_1 (rd l1 x17_1)).f0)).extract 64 (rdOf ByteArray.empty x7_1 ((rd_T55 l0_1 (rd l1 x17_1)).f0)).size).size ≤ 9223372036854775807) = true := decide_eq_true c57
               try have c57b2 : (9223372036854775807 < (((rd_T55 l0_1 (rd l1 x17_1)).f1).extract 0 64).size + ((rdOf ByteArray.empty x7_1 ((rd_T55 l0_1 (rd l1 x17_1)).f0)).extract 64 (rdOf ByteArray.empty x7_1 ((rd_T55 l0_1 (rd l1 x17_1)).f0)).size).size) = False := eq_false (Nat.not_lt.2 c57)
               obtain ⟨y143, hy143⟩ : ∃ y_ : List ByteArray, y_ = (x7_1.set (((rd_T55 l0_1 (rd l1 x17_1)).f0) : Int).toNat ((((rd_T55 l0_1 (rd l1 x17_1)).f1).extract 0 64) ++ ((rdOf ByteArray.empty x7_1 ((rd_T55 l0_1 (rd l1 x17_1)).f0)).extract 64 (rdOf ByteArray.empty x7_1 ((rd_T55 l0_1 (rd l1 x17_1)).f0)).size))) := ⟨_, rfl⟩
               replace H : (impl_Disk_lost.l0 k1 l1 a2 y143 l1 (l1.length : Int) (wrap64 (x17_1 + 1)) l0_0 l0_1) = some (r1, r2) := by first | (rw [hy143]; with_reducible exact H) | (have H2_ := (Option.bind_some _ _).symm.trans H; rw [hy143]; with_reducible exact H2_) | (have H2_ := (Option.bind_some _ _).symm.trans H; with_reducible exact H2_) | with_reducible exact H | (rw [hy143]; exact H) | exact H
               have Ny143 := am hy143
               clear hy143
               have H' := am H
               clear H
               have p135 : 0 ≤ (x17_1 : Int) := of_decide_eq_true (by first | (with_reducible assumption) | assumption)
               have q135 : x17_1 < (l1.length : Int) := of_decide_eq_true (by first | (with_reducible assumption) | assumption)
               obtain ⟨ad135, e135, hx135_0⟩ := Kd.at_int HR1.out x17_1 p135 q135
               cases e135
               replace hx135_0 := (HB.out.cell (blc w _ hx135_0)).trans hx135_0
               replace p135 := eq_true p135
               replace q135 := eq_true q135
               have hnb59 := NB130_131.out
               have hnc59 := NB131_130.out
               have hcz60_0 : wr.cell? ⟨gb130, 0, none⟩ = some (.slice A0_0 l0_0.length c0_0) := (kce BK130.out 0).trans rfl
               have hcz60_1 : wr.cell? ⟨gb130, 1, none⟩ = some (.slice A0_1 l0_1.length c0_1) := (kce BK130.out 1).trans rfl
               have hfz60_0 := kfr BK130.out 0
               have hfz60_1 := kfr BK130.out 1
               have p136 : 0 ≤ ((rd l1 x17_1) : Int) := of_decide_eq_true (by first | (with_reducible assumption) | assumption)
               have q136 : (rd l1 x17_1) < (l0_1.length : Int) := of_decide_eq_true (by first | (with_reducible assumption) | assumption)
               obtain ⟨ad136, e136, hx136_0, hx136_1⟩ := at_T55 HR0_1.out (rd l1 x17_1) p136 q136
               cases e136
               replace hx136_0 := (HB.out.cell (blc w _ hx136_0)).trans hx136_0
               replace hx136_1 := (HB.out.cell (blc w _ hx136_1)).trans hx136_1
               replace p136 := eq_true p136
               replace q136 := eq_true q136
               try go_wp2_with (first | ((with_reducible refine gate_dst (N := 10) rfl ?_); refine box_event ?hg (N := 10) ?hd (cs := #[.int .i64 0, .string (⟨#[]⟩ : ByteArray)]) (t := 55) ?hr ?_; (case hd => rfl); (case hg => rfl); (case hr => first | (go_simp; done) | (go_simp; rfl)); intro gb137 hg w61 hbox hb; have n0_ := am (krb (by (with_reducible repeat (first | apply kra | apply krn | apply krd)); exact HO_7.out) hb); have n1_ := am (kbb (g := gb130) (o := .cells #[.slice A0_0 l0_0.length c0_0, .slice (some ad136) l0_1.length c0_1] 30 (0, 0)) (by (with_reducible repeat (first | apply kdn | apply kdr | apply kal)); exact BK130.out) hb); have n2_ := am (kbb (g := gb131) (o := .cells #[.slice none 0 0, .slice none 0 0] 30 (0, 0)) (by (with_reducible repeat (first | apply kdn | apply kdr | apply kal)); exact BK131.out) hb); have n3_ := am (below_step (by repeat (first | (with_reducible first | exact HB.out | apply bal | apply pdn | apply bd1 | refine bst ?_ GE130.out | refine bst ?_ GE131.out) | exact HB.out)) hb); have n4_ := am (hbox); have n5_ := am ((by rw [hg]; exact (below_size (by repeat (first | (with_reducible first | exact HB.out | apply bal | apply pdn | apply bd1 | refine bst ?_ GE130.out | refine bst ?_ GE131.out) | exact HB.out))) : w.heap.size ≤ gb137)); have n6_ := am ((by rw [hg]; exact (below_size (by repeat (first | (with_reducible first | exact HB.out | apply bal | apply pdn | apply bd1 | refine bst ?_ GE130.out | refine bst ?_ GE131.out) | exact HB.out))) : w.heap.size ≤ gb137)); have n7_ := am ((by rw [hg]; exact Nat.ne_of_lt (blk_lt (g := gb130) (o := .cells #[.slice A0_0 l0_0.length c0_0, .slice (some ad136) l0_1.length c0_1] 30 (0, 0)) (by (with_reducible repeat (first | apply kdn | apply kdr | apply kal)); exact BK130.out)) : gb130 ≠ gb137)); have n8_ := am ((by rw [hg]; exact Nat.ne_of_gt (blk_lt (g := gb130) (o := .cells #[.slice A0_0 l0_0.length c0_0, .slice (some ad136) l0_1.length c0_1] 30 (0, 0)) (by (with_reducible repeat (first | apply kdn | apply kdr | apply kal)); exact BK130.out)) : gb137 ≠ gb130)); have n9_ := am ((by rw [hg]; exact Nat.ne_of_lt (blk_lt (g := gb131) (o := .cells #[.slice none 0 0, .slice none 0 0] 30 (0, 0)) (by (with_reducible repeat (first | apply kdn | apply kdr | apply kal)); exact BK131.out)) : gb131 ≠ gb137)); have n10_ := am ((by rw [hg]; exact Nat.ne_of_gt (blk_lt (g := gb131) (o := .cells #[.slice none 0 0, .slice none 0 0] 30 (0, 0)) (by (with_reducible repeat (first | apply kdn | apply kdr | apply kal)); exact BK131.out)) : gb137 ≠ gb131)); clear HO_7; clear BK130; clear BK131; clear HB; have HO_7 := n0_; have BK130 := n1_; have BK131 := n2_; have HB := n3_; have BK137 := n4_; have GW137 := n5_; have GE137 := n6_; have NB130_137 := n7_; have NB137_130 := n8_; have NB131_137 := n9_; have NB137_131 := n10_; clear n0_ n1_ n2_ n3_ n4_ n5_ n6_ n7_ n8_ n9_ n10_; clear hb hbox hg; have hnb62 := NB137_130.out; have hnc62 := NB130_137.out; have hnb63 := NB137_131.out; have hnc63 := NB131_137.out; have hcz64_0 : w61.cell? ⟨gb137, 0, none⟩ = some (.int .i64 0) := (kce BK137.out 0).trans rfl; have hcz64_1 : w61.cell? ⟨gb137, 1, none⟩ = some (.string (⟨#[]⟩ : ByteArray)) := (kce BK137.out 1).trans rfl; have hfz64_0 := kfr BK137.out 0; have hfz64_1 := kfr BK137.out 1))
               have n0_ : Aside0 (Kd.R Kd.string 9 ((w61.setCell ⟨gb137, 0, none⟩ (.int .i64 ((rd_T55 l0_1 (rd l1 x17_1)).f0))).setCell ⟨gb137, 1, none⟩ (.string ((rd_T55 l0_1 (rd l1 x17_1)).f1))) w.heap.size (fun _ => True) v133 x7_1) := ⟨by (with_reducible repeat (first | apply kra | apply krn | apply krd)); exact Kd.R_mono (kfa (p := ⟨gb137, 1, none⟩) (kfa (p := ⟨gb137, 0, none⟩) (Kd.R_types HO_7.out BK137.out (by decide)) (fun _ hk => hk.2) (.int .i64 ((rd_T55 l0_1 (rd l1 x17_1)).f0))) (fun _ hk => hk.2) (.string ((rd_T55 l0_1 (rd l1 x17_1)).f1))) (fun _ hk => trivial)⟩
               have n1_ : Aside0 (((w61.setCell ⟨gb137, 0, none⟩ (.int .i64 ((rd_T55 l0_1 (rd l1 x17_1)).f0))).setCell ⟨gb137, 1, none⟩ (.string ((rd_T55 l0_1 (rd l1 x17_1)).f1))).heap[gb130]? = some (.cells #[.slice A0_0 l0_0.length c0_0, .slice (some ad136) l0_1.length c0_1] 30 (0, 0))) := ⟨by (with_reducible repeat (first | apply kdn | apply kdr | apply kal)); refine blk_far ?_ NB130_137.out _; (with_reducible repeat (first | apply kdn | apply kdr | apply kal)); refine blk_far ?_ NB130_137.out _; (with_reducible repeat (first | apply kdn | apply kdr | apply kal)); exact BK130.out⟩
               have n2_ : Aside0 (((w61.setCell ⟨gb137, 0, none⟩ (.int .i64 ((rd_T55 l0_1 (rd l1 x17_1)).f0))).setCell ⟨gb137, 1, none⟩ (.string ((rd_T55 l0_1 (rd l1 x17_1)).f1))).heap[gb131]? = some (.cells #[.slice none 0 0, .slice none 0 0] 30 (0, 0))) := ⟨by (with_reducible repeat (first | apply kdn | apply kdr | apply kal)); refine blk_far ?_ NB131_137.out _; (with_reducible repeat (first | apply kdn | apply kdr | apply kal)); refine blk_far ?_ NB131_137.out _; (with_reducible repeat (first | apply kdn | apply kdr | apply kal)); exact BK131.out⟩
               have n3_ : Aside0 (((w61.setCell ⟨gb137, 0, none⟩ (.int .i64 ((rd_T55 l0_1 (rd l1 x17_1)).f0))).setCell ⟨gb137, 1, none⟩ (.string ((rd_T55 l0_1 (rd l1 x17_1)).f1))).heap[gb137]? = some (.cells #[.int .i64 ((rd_T55 l0_1 (rd l1 x17_1)).f0), .string ((rd_T55 l0_1 (rd l1 x17_1)).f1)] 55 (0, 0))) := ⟨by (with_reducible repeat (first | apply kdn | apply kdr | apply kal)); refine blk_put (cs := #[.int .i64 ((rd_T55 l0_1 (rd l1 x17_1)).f0), .string (⟨#[]⟩ : ByteArray)]) ?_ 1 _ rfl; (with_reducible repeat (first | apply kdn | apply kdr | apply kal)); refine blk_put (cs := #[.int .i64 0, .string (⟨#[]⟩ : ByteArray)]) ?_ 0 _ rfl; (with_reducible repeat (first | apply kdn | apply kdr | apply kal)); exact BK137.out⟩
               have n4_ : Aside0 (Below w.heap.size w ((w61.setCell ⟨gb137, 0, none⟩ (.int .i64 ((rd_T55 l0_1 (rd l1 x17_1)).f0))).setCell ⟨gb137, 1, none⟩ (.string ((rd_T55 l0_1 (rd l1 x17_1)).f1)))) := ⟨by repeat (first | (with_reducible first | exact HB.out | apply bal | apply pdn | apply bd1 | refine bst ?_ GE130.out | refine bst ?_ GE131.out | refine bst ?_ GE137.out) | exact HB.out)⟩
               (try clear HO_7)
               (try clear BK130)
               (try clear BK131)
               (try clear BK137)
               (try clear HB)
               generalize ((w61.setCell ⟨gb137, 0, none⟩ (.int .i64 ((rd_T55 l0_1 (rd l1 x17_1)).f0))).setCell ⟨gb137, 1, none⟩ (.string ((rd_T55 l0_1 (rd l1 x17_1)).f1))) = w65 at n0_ n1_ n2_ n3_ n4_ ⊢
               have HO_7 := n0_
               have BK130 := n1_
               have BK131 := n2_
               have BK137 := n3_
               have HB := n4_
               clear n0_ n1_ n2_ n3_ n4_
               have n0_ := am (krd HO_7.out)
               have n1_ := am (kdr BK130.out)
               have n2_ := am (kdr BK131.out)
               have n3_ := am (kdr BK137.out)
               have n4_ := am (bd1 HB.out)
               clear HO_7
               clear BK130
               clear BK131
               clear BK137
               clear HB
               have HO_7 := n0_
               have BK130 := n1_
               have BK131 := n2_
               have BK137 := n3_
               have HB := n4_
               clear n0_ n1_ n2_ n3_ n4_
               obtain ⟨Ao67, co67, eo67⟩ := Kd.R_slice HO_7.out
               (first | subst eo67 | (injection eo67 with f1_ f2_ f3_; have f4_ := f1_.symm; have f5_ := f3_.symm; clear f1_ f2_ f3_; subst f4_; subst f5_))
               have p142 : 0 ≤ (((rd_T55 l0_1 (rd l1 x17_1)).f0) : Int) := of_decide_eq_true (by first | (with_reducible assumption) | assumption)
               have q142 : ((rd_T55 l0_1 (rd l1 x17_1)).f0) < (x7_1.length : Int) := of_decide_eq_true (by first | (with_reducible assumption) | assumption)
               obtain ⟨ad142, e142, hx142_0⟩ := Kd.at_string (Kd.R_reads' HO_7.out).2.2 ((rd_T55 l0_1 (rd l1 x17_1)).f0) p142 q142
               cases e142
               replace p142 := eq_true p142
               replace q142 := eq_true q142
               have p58 : 0 ≤ (((rd_T55 l0_1 (rd l1 x17_1)).f0) : Int) := of_decide_eq_true (by first | (with_reducible assumption) | assumption)
               have q58 : (((rd_T55 l0_1 (rd l1 x17_1)).f0) : Int) < ((x7_1.length : Int) : Int) := of_decide_eq_true (by first | (with_reducible assumption) | assumption)
               obtain ⟨go58, co58, eo58, gb58, gl58, cl58, HG58⟩ := Kd.R_form HO_7.out (by omega)
               (first | cases eo58 | (injection eo58 with ea_ en_ ec_; (first | subst ea_ | (injection ea_ with ea_; subst ea_)); subst ec_; clear en_))
               have GB58 := am gb58
               have GG58 := am HG58
               clear gb58 gl58 HG58
               (first | simp only [add_plain] at hx142_0 | skip)
               obtain ⟨hx58_0, hf58_0⟩ := Kd.R_celln (⟨#[]⟩ : ByteArray) HO_7.out (((rd_T55 l0_1 (rd l1 x17_1)).f0) : Int) p58 q58
               replace p58 := eq_true p58
               replace q58 := eq_true q58
               have HP68 := Kd.R_putn HO_7.out (((rd_T55 l0_1 (rd l1 x17_1)).f0) : Int) ((((rd_T55 l0_1 (rd l1 x17_1)).f1).extract 0 64) ++ ((rdOf ByteArray.empty x7_1 ((rd_T55 l0_1 (rd l1 x17_1)).f0)).extract 64 (rdOf ByteArray.empty x7_1 ((rd_T55 l0_1 (rd l1 x17_1)).f0)).size))
               rw [← Ny143.out] at HP68
               have HQ68 := am HP68
               clear HP68
               refine start_ (n := 17) (S := fun w' => w'.cell? ⟨gb137, 0, none⟩ = some (.int .i64 ((rd_T55 l0_1 (rd l1 x17_1)).f0)) ∧ w'.cell? ⟨gb137, 1, none⟩ = some (.string ((rd_T55 l0_1 (rd l1 x17_1)).f1)) ∧ w'.cell? ⟨go58, (((rd_T55 l0_1 (rd l1 x17_1)).f0)).toNat, none⟩ = some (.string (rdOf ByteArray.empty x7_1 ((rd_T55 l0_1 (rd l1 x17_1)).f0)))) (ds := [16]) #[false, false, false, false, false, false, false, false, false, false, false, false, false, false, false, false, false] (by kernel_rfl) rfl rfl ⟨(kce BK137.out 0).trans rfl, (kce BK137.out 1).trans rfl, hx142_0⟩ (fun hHeld => ?_); refine with_tabW impl_Disk_lost.tab9 impl_Disk_lost.bits9 (fun HT_ HW_ => ?_)
               generalize w65.drew = w66 at HO_7 BK130 BK131 BK137 HB GG58 HQ68 hf58_0 hx142_0 hx58_0 hHeld ⊢
               refine pure_ (i := 0) (N := some 37) (v := ?_) (a' := ?_) #[true, false, false, false, false, false, false, false, false, false, false, false, false, false, false, false, false] rfl rfl (any_of HT_.out (by kernel_rfl)) (fun _ _ _ h => h) (Or.inl ⟨by rfl, ?_⟩) ?_ ?_
               rotate_left
               ·intro w'
                go_simp
                with_reducible rfl
               rotate_left
               ·simp only [Act.put, sit, scz, scs, i64_w, i32_w]
                rfl
               refine pure_ (i := 1) (N := some 38) (v := ?_) (a' := ?_) #[true, true, false, false, false, false, false, false, false, false, false, false, false, false, false, false, false] rfl rfl (any_of HT_.out (by kernel_rfl)) (fun _ _ _ h => h) (Or.inl ⟨by rfl, ?_⟩) ?_ ?_
               rotate_left
               ·intro w'
                go_simp
                with_reducible rfl
               rotate_left
               ·simp only [Act.put, sit, scz, scs, i64_w, i32_w]
                rfl
               refine pure_ (i := 3) (N := some 40) (v := ?_) (a' := ?_) #[true, true, false, true, false, false, false, false, false, false, false, false, false, false, false, false, false] rfl rfl (any_of HT_.out (by kernel_rfl)) (fun _ _ _ h => h) (Or.inl ⟨by rfl, ?_⟩) ?_ ?_
               rotate_left
               ·intro w'
                go_simp
                with_reducible rfl
               rotate_left
               ·simp only [Act.put, sit, scz, scs, i64_w, i32_w]
                rfl
               refine pure_ (i := 5) (N := some 42) (v := ?_) (a' := ?_) #[true, true, false, true, false, true, false, false, false, false, false, false, false, false, false, false, false] rfl rfl (any_of HT_.out (by kernel_rfl)) (fun _ _ _ h => h) (Or.inl ⟨by rfl, ?_⟩) ?_ ?_
               rotate_left
               ·intro w'
                go_simp
                with_reducible rfl
               rotate_left
               ·simp only [Act.put, sit, scz, scs, i64_w, i32_w]
                rfl
               refine pure_ (i := 7) (N := some 44) (v := ?_) (a' := ?_) #[true, true, false, true, false, true, false, true, false, false, false, false, false, false, false, false, false] rfl rfl (any_of HT_.out (by kernel_rfl)) (fun _ _ _ h => h) (Or.inl ⟨by rfl, ?_⟩) ?_ ?_
               rotate_left
               ·intro w'
                go_simp
                with_reducible rfl
               rotate_left
               ·simp only [Act.put, sit, scz, scs, i64_w, i32_w]
                rfl
               refine pure_ (i := 8) (N := some 45) (v := ?_) (a' := ?_) #[true, true, false, true, false, true, false, true, true, false, false, false, false, false, false, false, false] rfl rfl (any_of HT_.out (by kernel_rfl)) (fun _ _ _ h => h) (Or.inl ⟨by rfl, ?_⟩) ?_ ?_
               rotate_left
               ·intro w'
                go_simp
                with_reducible rfl
               rotate_left
               ·simp only [Act.put, sit, scz, scs, i64_w, i32_w]
                rfl
               refine pure_ (i := 12) (N := some 49) (v := ?_) (a' := ?_) #[true, true, false, true, false, true, false, true, true, false, false, false, true, false, false, false, false] rfl rfl (any_of HT_.out (by kernel_rfl)) (fun _ _ _ h => h) (Or.inl ⟨by rfl, ?_⟩) ?_ ?_
               rotate_left
               ·intro w'
                go_simp
                with_reducible rfl
               rotate_left
               ·simp only [Act.put, sit, scz, scs, i64_w, i32_w]
                rfl
               refine take_ (i := 2) (N := some 39) (v := ?_) (a' := ?_) #[true, true, true, true, false, true, false, true, true, false, false, false, true, false, false, false, false] rfl rfl (take_ofW HT_.out HW_.out (by kernel_rfl)) (fun _ _ _ h => h) (Or.inl ⟨by rfl, ?_⟩) hHeld ?_ ?_
               rotate_left
               ·rintro w' ⟨s0, s1, s2⟩
                go_simp
                with_reducible rfl
               rotate_left
               ·simp only [Act.put, sit, scz, scs, i64_w, i32_w]
                rfl
               refine take_ (i := 4) (N := some 41) (v := ?_) (a' := ?_) #[true, true, true, true, true, true, false, true, true, false, false, false, true, false, false, false, false] rfl rfl (take_ofW HT_.out HW_.out (by kernel_rfl)) (fun _ _ _ h => h) (Or.inl ⟨by rfl, ?_⟩) hHeld ?_ ?_
               rotate_left
               ·rintro w' ⟨s0, s1, s2⟩
                go_simp
                with_reducible rfl
               rotate_left
               ·simp only [Act.put, sit, scz, scs, i64_w, i32_w]
                rfl
               refine pure_ (i := 6) (N := some 43) (v := ?_) (a' := ?_) #[true, true, true, true, true, true, true, true, true, false, false, false, true, false, false, false, false] rfl rfl (any_of HT_.out (by kernel_rfl)) (fun _ _ _ h => h) (Or.inl ⟨by rfl, ?_⟩) ?_ ?_
               rotate_left
               ·intro w'
                go_simp
                with_reducible rfl
               rotate_left
               ·simp only [Act.put, sit, scz, scs, i64_w, i32_w]
                rfl
               refine take_ (i := 9) (N := some 46) (v := ?_) (a' := ?_) #[true, true, true, true, true, true, true, true, true, true, false, false, true, false, false, false, false] rfl rfl (take_ofW HT_.out HW_.out (by kernel_rfl)) (fun _ _ _ h => h) (Or.inl ⟨by rfl, ?_⟩) hHeld ?_ ?_
               rotate_left
               ·rintro w' ⟨s0, s1, s2⟩
                go_simp
                with_reducible rfl
               rotate_left
               ·simp only [Act.put, sit, scz, scs, i64_w, i32_w]
                rfl
               refine pure_ (i := 10) (N := some 47) (v := ?_) (a' := ?_) #[true, true, true, true, true, true, true, true, true, true, true, false, true, false, false, false, false] rfl rfl (any_of HT_.out (by kernel_rfl)) (fun _ _ _ h => h) (Or.inl ⟨by rfl, ?_⟩) ?_ ?_
               rotate_left
               ·intro w'
                go_simp
                with_reducible rfl
               rotate_left
               ·simp only [Act.put, sit, scz, scs, i64_w, i32_w]
                rfl
               refine take_ (i := 11) (N := some 48) (v := ?_) (a' := ?_) #[true, true, true, true, true, true, true, true, true, true, true, true, true, false, false, false, false] rfl rfl (take_ofW HT_.out HW_.out (by kernel_rfl)) (fun _ _ _ h => h) (Or.inl ⟨by rfl, ?_⟩) hHeld ?_ ?_
               rotate_left
               ·rintro w' ⟨s0, s1, s2⟩
                go_simp
                with_reducible rfl
               rotate_left
               ·simp only [Act.put, sit, scz, scs, i64_w, i32_w]
                rfl
               refine pure_ (i := 13) (N := some 50) (v := ?_) (a' := ?_) #[true, true, true, true, true, true, true, true, true, true, true, true, true, true, false, false, false] rfl rfl (any_of HT_.out (by kernel_rfl)) (fun _ _ _ h => h) (Or.inl ⟨by rfl, ?_⟩) ?_ ?_
               rotate_left
               ·intro w'
                go_simp
                with_reducible rfl
               rotate_left
               ·simp only [Act.put, sit, scz, scs, i64_w, i32_w]
                rfl
               refine pure_ (i := 14) (N := some 51) (v := ?_) (a' := ?_) #[true, true, true, true, true, true, true, true, true, true, true, true, true, true, true, false, false] rfl rfl (any_of HT_.out (by kernel_rfl)) (fun _ _ _ h => h) (Or.inl ⟨by rfl, ?_⟩) ?_ ?_
               rotate_left
               ·intro w'
                go_simp
                with_reducible rfl
               rotate_left
               ·simp only [Act.put, sit, scz, scs, i64_w, i32_w]
                rfl
               refine pure_ (i := 15) (N := some 52) (v := ?_) (a' := ?_) #[true, true, true, true, true, true, true, true, true, true, true, true, true, true, true, true, false] rfl rfl (any_of HT_.out (by kernel_rfl)) (fun _ _ _ h => h) (Or.inl ⟨by rfl, ?_⟩) ?_ ?_
               rotate_left
               ·intro w'
                go_simp
                with_reducible rfl
               rotate_left
               ·simp only [Act.put, sit, scz, scs, i64_w, i32_w]
                rfl
               refine last_ (i := 16) (N := none) #[true, true, true, true, true, true, true, true, true, true, true, true, true, true, true, true, true] rfl rfl (one_of HT_.out (by kernel_rfl)) (by decide) (fun K hK => ?_)
               refine skip_ (w1 := ?_) (by rfl) rfl ?_ ?_
               rotate_left
               ·go_simp
                rfl
               refine hK.out _ _ ?_
               clear hK K
               refine done_ (done_of HT_.out (by kernel_rfl)) ?_
               try go_wp2
               go_roundg k1
               case measure => have := HK1.out; omega
               case rel => exact ⟨(y143), (wrap64 (x17_1 + 1)), (by first | rfl | (simp; done) | (simp [*]; done)), H', ⟨by have := HK1.out; omega⟩, ⟨by (with_reducible repeat (first | apply kra | apply krn | apply krd)); exact HQ68.out⟩, ⟨by (with_reducible repeat (first | apply kdn | apply kdr | apply kal)); refine blk_far ?_ (by have h_ := Kd.R_ne HO_7.out BK130.out (by decide); intro e_; exact h_ (by rw [e_]; rfl)) _; (with_reducible repeat (first | apply kdn | apply kdr | apply kal)); exact BK130.out⟩, ⟨by (with_reducible repeat (first | apply kdn | apply kdr | apply kal)); refine blk_far ?_ (by have h_ := Kd.R_ne HO_7.out BK131.out (by decide); intro e_; exact h_ (by rw [e_]; rfl)) _; (with_reducible repeat (first | apply kdn | apply kdr | apply kal)); exact BK131.out⟩, ⟨by repeat (first | (with_reducible first | exact HB.out | apply bal | apply pdn | apply bd1 | refine bst ?_ GB58.out | refine bst ?_ GE130.out | refine bst ?_ GE131.out | refine bst ?_ GE137.out) | exact HB.out)⟩⟩
              ·rw [if_neg c57] at H
               exact absurd H (by simp)
             ·rw [if_neg c56] at H
              exact absurd H (by simp)
            ·rw [if_neg c55] at H
             exact absurd H (by simp)
           ·rw [if_neg c54] at H
            exact absurd H (by simp)
          ·rw [if_neg c53] at H
           exact absurd H (by simp)
         ·rw [if_neg c52] at H
          exact absurd H (by simp)
       ·rw [if_neg c14] at H
        exact absurd H (by simp)
      ·rw [if_neg c13] at H
       exact absurd H (by simp)
     ·rw [if_neg c12] at H
      exact absurd H (by simp)
    ·rw [if_neg c11] at H
     exact absurd H (by simp)
   ·rw [if_neg c10] at H
    have c10b0 : decide (x17_1 < (l1.length : Int)) = false := decide_eq_false c10
    clear c10
    simp only [Option.some.injEq, Prod.mk.injEq] at H
    obtain ⟨rfl, rfl⟩ := H
    obtain ⟨Ao69, co69, eo69⟩ := Kd.R_slice HO_7.out
    subst eo69
    have hnb70 := NB131_130.out
    have hnc70 := NB130_131.out
    have hcz71_0 : wr.cell? ⟨gb131, 0, none⟩ = some (.slice none 0 0) := (kce BK131.out 0).trans rfl
    have hcz71_1 : wr.cell? ⟨gb131, 1, none⟩ = some (.slice none 0 0) := (kce BK131.out 1).trans rfl
    have hfz71_0 := kfr BK131.out 0
    have hfz71_1 := kfr BK131.out 1
    go_wp2
    refine bodyPost_ret (results_cell_row rfl _ _ gb131 30 #[.slice Ao69 x7_1.length co69, .slice none 0 0] (0, 0) _ rfl (by (with_reducible repeat (first | apply kdn | apply kdr | apply kal)); refine blk_put (cs := #[.slice Ao69 x7_1.length co69, .slice none 0 0]) ?_ 1 _ rfl; (with_reducible repeat (first | apply kdn | apply kdr | apply kal)); refine blk_put (cs := #[.slice none 0 0, .slice none 0 0]) ?_ 0 _ rfl; (with_reducible repeat (first | apply kdn | apply kdr | apply kal)); exact BK131.out) Try.underlying30 rfl (by kernel_rfl)) rfl ?_
    exact ⟨_, _, by first | rfl | (simp [errW_none, errW_some] <;> rfl) | (simp [*, errW_none, errW_some] <;> rfl), by (with_reducible repeat (first | apply kra | apply krn | apply krd)); exact Kd.R_mono (kfa (p := ⟨gb131, 1, none⟩) (kfa (p := ⟨gb131, 0, none⟩) (Kd.R_types HO_7.out BK131.out (by decide)) (fun _ hk => hk.2) (.slice Ao69 x7_1.length co69)) (fun _ hk => hk.2) (.slice none 0 0)) (fun _ hk => trivial), by first | exact Kd.R_nil _ _ _ _ _ | exact Kd.N_nil _ _ _ _ _ | exact Kd.V_nil _ _ _ _ _ | exact Kd.Q_nil _ _ _ _ _ | exact Kd.S_nil _ _ _ _ _, by repeat (first | (with_reducible first | exact HB.out | apply bal | apply pdn | apply bd1 | refine bst ?_ GE130.out | refine bst ?_ GE131.out) | exact HB.out)⟩

end Go.Proofs.Ythphhklbliambaa.MFnDiskKeeps
