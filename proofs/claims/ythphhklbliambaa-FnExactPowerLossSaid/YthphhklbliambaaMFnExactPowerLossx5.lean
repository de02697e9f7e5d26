-- Written by a program of this session (wip/tools/myprint.py) over the kit's print: it is not the kit's print.
import Derived.Test.YthphhklbliambaaExtra
import Derived.Test.YthphhklbliambaaMFnExactPowerLossx0
import Derived.Test.YthphhklbliambaaMFnExactPowerLossx3
import Derived.Test.YthphhklbliambaaMFnExactPowerLossx4
namespace Go.Proofs.Ythphhklbliambaa.MFnExactPowerLoss
open Go.RowKit Go.Proofs.YthphhklbliambaaW.PrintWords Go.Proofs.YthphhklbliambaaW.PrintLast Go.Proofs.YthphhklbliambaaW.PrintMore
open List renaming setIfInBounds_toArray → sit, set_cons_zero → scz, set_cons_succ → scs, map_toArray → mta, map_cons → mco, map_nil → mni, length_drop → lnd, length_take → lnt
open World renaming block_lt_of_cell? → blc
attribute [local go_sem] max2_int min2_int max_two min_two max_three min_three max_four min_four   -- for this text's walks alone
set_option linter.unusedVariables false
set_option linter.unusedSimpArgs false

/-! ### spec_PowerLoss: function 28 -/
mutual
def spec_PowerLoss.j0 : Nat → List Int → Int → Bool → List ByteArray → List (S55) → Option (List ByteArray × (List (S55)) × Int)
 | 0, _, _, _, _, _ => none
 | k + 1, x1, x2, x26, x174000, x174001 => if x26 = true then (some (([] : List ByteArray), ([] : List (S55)), 2)) else ((some (([] : List ByteArray) : List ByteArray)).bind fun y178 => (if y178.length + x174000.length < 8796093022208 then (spec_PowerLoss.l0 k x1 x2 0 x174000 x174001 (y178 ++ x174000)) else (none)))
def spec_PowerLoss.l0 : Nat → List Int → Int → Int → List ByteArray → List (S55) → List ByteArray → Option (List ByteArray × (List (S55)) × Int)
 | 0, _, _, _, _, _, _ => none
 | k + 1, x1, x2, x9, x174000, x174001, x185000 => if x9 < (x1.length : Int) then (if 0 ≤ x9 then (if 0 ≤ (rd x1 x9) then (if (rd x1 x9) < (x174001.length : Int) then (if x9 = (wrap64 ((x1.length : Int) - 1)) then (if x2 ≥ 0 then (if 0 ≤ x2 then (if x2 ≤ (((rd_T55 x174001 (rd x1 x9)).f1).size : Int) then (if 0 ≤ ((rd_T55 x174001 (rd x1 x9)).f0) then (if ((rd_T55 x174001 (rd x1 x9)).f0) < (x185000.length : Int) then (if x2 ≤ ((rdOf ByteArray.empty x185000 ((rd_T55 x174001 (rd x1 x9)).f0)).size : Int) then (if (((rd_T55 x174001 (rd x1 x9)).f1).extract 0 (x2 : Int).toNat).size + ((rdOf ByteArray.empty x185000 ((rd_T55 x174001 (rd x1 x9)).f0)).extract (x2 : Int).toNat (rdOf ByteArray.empty x185000 ((rd_T55 x174001 (rd x1 x9)).f0)).size).size ≤ 9223372036854775807 then (spec_PowerLoss.l0 k x1 x2 (wrap64 (x9 + 1)) x174000 x174001 (x185000.set (((rd_T55 x174001 (rd x1 x9)).f0) : Int).toNat ((((rd_T55 x174001 (rd x1 x9)).f1).extract 0 (x2 : Int).toNat) ++ ((rdOf ByteArray.empty x185000 ((rd_T55 x174001 (rd x1 x9)).f0)).extract (x2 : Int).toNat (rdOf ByteArray.empty x185000 ((rd_T55 x174001 (rd x1 x9)).f0)).size)))) else (none)) else (none)) else (none)) else (none)) else (none)) else (none)) else (if 0 ≤ ((rd_T55 x174001 (rd x1 x9)).f0) then (if ((rd_T55 x174001 (rd x1 x9)).f0) < (x185000.length : Int) then (spec_PowerLoss.l0 k x1 x2 (wrap64 (x9 + 1)) x174000 x174001 (x185000.set (((rd_T55 x174001 (rd x1 x9)).f0) : Int).toNat ((rd_T55 x174001 (rd x1 x9)).f1))) else (none)) else (none))) else (if 0 ≤ ((rd_T55 x174001 (rd x1 x9)).f0) then (if ((rd_T55 x174001 (rd x1 x9)).f0) < (x185000.length : Int) then (spec_PowerLoss.l0 k x1 x2 (wrap64 (x9 + 1)) x174000 x174001 (x185000.set (((rd_T55 x174001 (rd x1 x9)).f0) : Int).toNat ((rd_T55 x174001 (rd x1 x9)).f1))) else (none)) else (none))) else (none)) else (none)) else (none)) else (some (x185000, ([] : List (S55)), 0))
end
def spec_PowerLoss.f (k : Nat) (l0_0 : List ByteArray) (l0_1 : List (S55)) (l1 : List Int) (a2 : Int) : Option (List ByteArray × (List (S55)) × Int) := (spec_DiskOk.f k l0_0 l0_1).bind fun t175 => (if t175 = true then ((spec_l00Rises.f k l1 0 (wrap64 ((l0_1.length : Int) - 1))).bind fun t176 => (if t176 = true then ((spec_l00In.f a2 (-1) 64).bind fun t177 => (spec_PowerLoss.j0 k l1 a2 (!t177) l0_0 l0_1)) else (spec_PowerLoss.j0 k l1 a2 true l0_0 l0_1))) else (some (([] : List ByteArray), ([] : List (S55)), 1)))
theorem spec_PowerLoss.mono_l : ∀ k, (∀ y0 y1 y2 y3 y4, LeO (spec_PowerLoss.j0 k y0 y1 y2 y3 y4) (spec_PowerLoss.j0 (k + 1) y0 y1 y2 y3 y4)) ∧ (∀ y0 y1 y2 y3 y4 y5, LeO (spec_PowerLoss.l0 k y0 y1 y2 y3 y4 y5) (spec_PowerLoss.l0 (k + 1) y0 y1 y2 y3 y4 y5))
 | 0 => ⟨fun _ _ _ _ _ r h => by simp [spec_PowerLoss.j0] at h, fun _ _ _ _ _ _ r h => by simp [spec_PowerLoss.l0] at h⟩
 | k + 1 => by
  obtain ⟨ih0, ih1⟩ := spec_PowerLoss.mono_l k
  refine ⟨?_, ?_⟩
  ·intro y0 y1 y2 y3 y4
   unfold spec_PowerLoss.j0
   repeat' first
   | (with_reducible exact ih0 _ _ _ _ _)
   | (with_reducible exact ih1 _ _ _ _ _ _)
   | (with_reducible exact spec_DiskOk.mono _ _ _)
   | (with_reducible exact spec_l00Rises.mono _ _ _ _)
   | (with_reducible exact LeO.refl _)
   | (with_reducible exact LeO.none _)
   | (with_reducible refine LeO.ite ?_ ?_)
   | (with_reducible refine LeO.bind ?_ (fun _ => ?_))
   | exact ih0 _ _ _ _ _
   | exact ih1 _ _ _ _ _ _
   | exact spec_DiskOk.mono _ _ _
   | exact spec_l00Rises.mono _ _ _ _
   | exact LeO.none _
   | refine LeO.ite ?_ ?_
   | refine LeO.bind ?_ (fun _ => ?_)
  ·intro y0 y1 y2 y3 y4 y5
   unfold spec_PowerLoss.l0
   repeat' first
   | (with_reducible exact ih0 _ _ _ _ _)
   | (with_reducible exact ih1 _ _ _ _ _ _)
   | (with_reducible exact spec_DiskOk.mono _ _ _)
   | (with_reducible exact spec_l00Rises.mono _ _ _ _)
   | (with_reducible exact LeO.refl _)
   | (with_reducible exact LeO.none _)
   | (with_reducible refine LeO.ite ?_ ?_)
   | (with_reducible refine LeO.bind ?_ (fun _ => ?_))
   | exact ih0 _ _ _ _ _
   | exact ih1 _ _ _ _ _ _
   | exact spec_DiskOk.mono _ _ _
   | exact spec_l00Rises.mono _ _ _ _
   | exact LeO.none _
   | refine LeO.ite ?_ ?_
   | refine LeO.bind ?_ (fun _ => ?_)
theorem spec_PowerLoss.mono : ∀ a0 a1 a2 a3 k, LeO (spec_PowerLoss.f k a0 a1 a2 a3) (spec_PowerLoss.f (k + 1) a0 a1 a2 a3) := by
 intro a0 a1 a2 a3 k
 obtain ⟨ih0, ih1⟩ := spec_PowerLoss.mono_l k
 unfold spec_PowerLoss.f
 repeat' first
   | (with_reducible exact ih0 _ _ _ _ _)
   | (with_reducible exact ih1 _ _ _ _ _ _)
   | (with_reducible exact spec_DiskOk.mono _ _ _)
   | (with_reducible exact spec_l00Rises.mono _ _ _ _)
   | (with_reducible exact LeO.refl _)
   | (with_reducible exact LeO.none _)
   | (with_reducible refine LeO.ite ?_ ?_)
   | (with_reducible refine LeO.bind ?_ (fun _ => ?_))
   | exact ih0 _ _ _ _ _
   | exact ih1 _ _ _ _ _ _
   | exact spec_DiskOk.mono _ _ _
   | exact spec_l00Rises.mono _ _ _ _
   | exact LeO.none _
   | refine LeO.ite ?_ ?_
   | refine LeO.bind ?_ (fun _ => ?_)
def spec_PowerLoss.T9 : Bool × List (List Nat × List Nat) := (true, [([], []), ([0], [0]), ([], []), ([], []), ([2, 3], [2, 3]), ([4], [4]), ([1, 5], [1, 5]), ([6], [6]), ([], []), ([8, 7, 0, 1, 2, 3, 4, 5, 6, 7, 8], [7, 8])])
def spec_PowerLoss.B9 : List Nat := [0, 1, 0, 0, 12, 28, 63, 127, 0, 511]
theorem spec_PowerLoss.tab9 : rtab .any (opsOf Try.f28 9) = spec_PowerLoss.T9 := by kernel_rfl
theorem spec_PowerLoss.bits9 : waitsOk spec_PowerLoss.T9.2 spec_PowerLoss.B9 = true := by kernel_rfl
def spec_PowerLoss.T11 : Bool × List (List Nat × List Nat) := (true, [([], []), ([0], [0]), ([], []), ([1, 2], [1, 2]), ([], []), ([4], [4]), ([], []), ([6], [6]), ([5, 7], [5, 7]), ([8], [8]), ([], []), ([9, 10], [9, 10]), ([3, 11], [3, 11]), ([0, 1, 2, 3, 4, 5, 6, 7, 8, 9, 10, 11, 12], []), ([13, 12, 0, 1, 2, 3, 4, 5, 6, 7, 8, 9, 10, 11, 12], [12, 13])])
def spec_PowerLoss.B11 : List Nat := [0, 1, 0, 7, 0, 16, 0, 64, 240, 496, 0, 2032, 4095, 8191, 16383]
theorem spec_PowerLoss.tab11 : rtab .any (opsOf Try.f28 11) = spec_PowerLoss.T11 := by kernel_rfl
theorem spec_PowerLoss.bits11 : waitsOk spec_PowerLoss.T11.2 spec_PowerLoss.B11 = true := by kernel_rfl
set_option maxHeartbeats 8000000 in
set_option maxRecDepth 100000 in
theorem spec_PowerLoss.calls (k : Nat) (A0_0 : Option Addr) (c0_0 : Nat) (l0_0 : List ByteArray) (A0_1 : Option Addr) (c0_1 : Nat) (l0_1 : List (S55)) (A1 : Option Addr) (c1 : Nat) (l1 : List Int) (a2 : Int) (r1 : List ByteArray) (r2 : List (S55)) (r3 : Int) (w : World) (hr0_0 : Kd.C Kd.string w A0_0 l0_0.length l0_0) (hc0_0 : l0_0.length ≤ c0_0) (hr0_1 : Kd.C k55 w A0_1 l0_1.length l0_1) (hc0_1 : l0_1.length ≤ c0_1) (hr1 : Kd.C (Kd.int .i64) w A1 l1.length l1) (hc1 : l1.length ≤ c1) (h : spec_PowerLoss.f k l0_0 l0_1 l1 a2 = some (r1, r2, r3)) :
  Calls Try.prog 28 #[.agg #[.slice A0_0 l0_0.length c0_0, .slice A0_1 l0_1.length c0_1], .slice A1 l1.length c1, .int .i64 a2] w fun e w' => ∃ v0_ v1_ : Value, e = .returned (.tuple #[.agg #[v0_, v1_], .int .i64 r3]) ∧ Kd.R Kd.string 9 w' w.heap.size (fun _ => True) v0_ r1 ∧ Kd.R k55 55 w' w.heap.size (fun _ => True) v1_ r2 ∧ Below w.heap.size w w' := by
 have hu30 := Try.underlying30
 have hu55 := Try.underlying55
 have HR0_0 := am hr0_0
 have HC0_0 := am hc0_0
 clear hr0_0 hc0_0
 have HR0_1 := am hr0_1
 have HC0_1 := am hc0_1
 clear hr0_1 hc0_1
 have HR1 := am hr1
 have HC1 := am hc1
 clear hr1 hc1
 have HB := am (Below.refl w.heap.size w)
 have H : ((spec_DiskOk.f k l0_0 l0_1).bind fun t175 => (if t175 = true then ((spec_l00Rises.f k l1 0 (wrap64 ((l0_1.length : Int) - 1))).bind fun t176 => (if t176 = true then ((spec_l00In.f a2 (-1) 64).bind fun t177 => (spec_PowerLoss.j0 k l1 a2 (!t177) l0_0 l0_1)) else (spec_PowerLoss.j0 k l1 a2 true l0_0 l0_1))) else (some (([] : List ByteArray), ([] : List (S55)), 1)))) = some (r1, r2, r3) := h
 clear h
 replace H := Option.bind_eq_some_iff.mp H
 obtain ⟨t175, A40, H⟩ := H
 replace H : (if t175 = true then ((spec_l00Rises.f k l1 0 (wrap64 ((l0_1.length : Int) - 1))).bind fun t176 => (if t176 = true then ((spec_l00In.f a2 (-1) 64).bind fun t177 => (spec_PowerLoss.j0 k l1 a2 (!t177) l0_0 l0_1)) else (spec_PowerLoss.j0 k l1 a2 true l0_0 l0_1))) else (some (([] : List ByteArray), ([] : List (S55)), 1))) = some (r1, r2, r3) := H
 have A4 := am A40
 clear A40
 by_cases c5 : t175 = true
 ·subst c5
  have H1 : ((spec_l00Rises.f k l1 0 (wrap64 ((l0_1.length : Int) - 1))).bind fun t176 => (if t176 = true then ((spec_l00In.f a2 (-1) 64).bind fun t177 => (spec_PowerLoss.j0 k l1 a2 (!t177) l0_0 l0_1)) else (spec_PowerLoss.j0 k l1 a2 true l0_0 l0_1))) = some (r1, r2, r3) := by rw [if_pos rfl] at H; exact H
  clear H
  have H := H1
  clear H1
  have HC6 := am H
  clear H
  go_enter Try.func28, Try.ntmps28
  go_upto_region 3 with (first | ((with_reducible refine gate_dst (N := 3) rfl ?_); refine box_event ?hg (N := 3) ?hd (cs := #[.slice A0_0 l0_0.length c0_0, .slice A0_1 l0_1.length c0_1]) (t := 30) ?hr ?_; (case hd => rfl); (case hg => rfl); (case hr => first | (go_simp; done) | (go_simp; rfl)); intro gb173 hg w7 hbox hb; have n0_ := am (below_step (by repeat (first | (with_reducible first | exact HB.out | apply bal | apply pdn | apply bd1) | exact HB.out)) hb); have n1_ := am (hbox); have n2_ := am ((by rw [hg]; exact (below_size (by repeat (first | (with_reducible first | exact HB.out | apply bal | apply pdn | apply bd1) | exact HB.out))) : w.heap.size ≤ gb173)); have n3_ := am ((by rw [hg]; exact (below_size (by repeat (first | (with_reducible first | exact HB.out | apply bal | apply pdn | apply bd1) | exact HB.out))) : w.heap.size ≤ gb173)); clear HB; have HB := n0_; have BK173 := n1_; have GW173 := n2_; have GE173 := n3_; clear n0_ n1_ n2_ n3_; clear hb hbox hg) | ((with_reducible refine gate_dst (N := 6) rfl ?_); refine box_event ?hg (N := 6) ?hd (cs := #[.slice none 0 0, .slice none 0 0]) (t := 30) ?hr ?_; (case hd => rfl); (case hg => rfl); (case hr => first | (go_simp; done) | (go_simp; rfl)); intro gb174 hg w8 hbox hb; have n0_ := am (kbb (g := gb173) (o := .cells #[.slice A0_0 l0_0.length c0_0, .slice A0_1 l0_1.length c0_1] 30 (0, 0)) (by (with_reducible repeat (first | apply kdn | apply kdr | apply kal)); exact BK173.out) hb); have n1_ := am (below_step (by repeat (first | (with_reducible first | exact HB.out | apply bal | apply pdn | apply bd1 | refine bst ?_ GE173.out) | exact HB.out)) hb); have n2_ := am (hbox); have n3_ := am ((by rw [hg]; exact (below_size (by repeat (first | (with_reducible first | exact HB.out | apply bal | apply pdn | apply bd1 | refine bst ?_ GE173.out) | exact HB.out))) : w.heap.size ≤ gb174)); have n4_ := am ((by rw [hg]; exact (below_size (by repeat (first | (with_reducible first | exact HB.out | apply bal | apply pdn | apply bd1 | refine bst ?_ GE173.out) | exact HB.out))) : w.heap.size ≤ gb174)); have n5_ := am ((by rw [hg]; exact Nat.ne_of_lt (blk_lt (g := gb173) (o := .cells #[.slice A0_0 l0_0.length c0_0, .slice A0_1 l0_1.length c0_1] 30 (0, 0)) (by (with_reducible repeat (first | apply kdn | apply kdr | apply kal)); exact BK173.out)) : gb173 ≠ gb174)); have n6_ := am ((by rw [hg]; exact Nat.ne_of_gt (blk_lt (g := gb173) (o := .cells #[.slice A0_0 l0_0.length c0_0, .slice A0_1 l0_1.length c0_1] 30 (0, 0)) (by (with_reducible repeat (first | apply kdn | apply kdr | apply kal)); exact BK173.out)) : gb174 ≠ gb173)); clear BK173; clear HB; have BK173 := n0_; have HB := n1_; have BK174 := n2_; have GW174 := n3_; have GE174 := n4_; have NB173_174 := n5_; have NB174_173 := n6_; clear n0_ n1_ n2_ n3_ n4_ n5_ n6_; clear hb hbox hg; have hnb9 := NB173_174.out; have hnc9 := NB174_173.out; have hcz10_0 : w8.cell? ⟨gb173, 0, none⟩ = some (.slice A0_0 l0_0.length c0_0) := (kce BK173.out 0).trans rfl; have hcz10_1 : w8.cell? ⟨gb173, 1, none⟩ = some (.slice A0_1 l0_1.length c0_1) := (kce BK173.out 1).trans rfl; have hfz10_0 := kfr BK173.out 0; have hfz10_1 := kfr BK173.out 1) | ((with_reducible refine gate_callee (f := 16) rfl ?_); refine goesL_ (some 12) rfl rfl Try.func16 (by kernel_rfl) rfl #[.agg #[.slice A0_0 l0_0.length c0_0, .slice A0_1 l0_1.length c0_1]] rfl (by (try simp only [mta, mco, mni]); first | done | rfl | (simp only [lnd, lnt]; rfl)) ?_; (with_reducible refine (spec_DiskOk.calls k _ _ l0_0 _ _ l0_1 true _ ?side1 ?side2 ?side3 ?side4 A4.out).mono ?_); (case side1 => repeat (first | exact (Kd.C_below HR0_0.out HB.out) | (with_reducible first | apply kca | apply kcn | apply kcd))); (case side2 => exact HC0_0.out); (case side3 => repeat (first | exact (Kd.C_below HR0_1.out HB.out) | (with_reducible first | apply kca | apply kcn | apply kcd))); (case side4 => exact HC0_1.out); rintro e w11 ⟨rfl, hb⟩; refine ⟨_, rfl, ?_⟩; have n0_ := am (kbb (g := gb173) (o := .cells #[.slice A0_0 l0_0.length c0_0, .slice A0_1 l0_1.length c0_1] 30 (0, 0)) (by (with_reducible repeat (first | apply kdn | apply kdr | apply kal)); exact BK173.out) hb); have n1_ := am (kbb (g := gb174) (o := .cells #[.slice none 0 0, .slice none 0 0] 30 (0, 0)) (by (with_reducible repeat (first | apply kdn | apply kdr | apply kal)); exact BK174.out) hb); have n2_ := am (below_step (by repeat (first | (with_reducible first | exact HB.out | apply bal | apply pdn | apply bd1 | refine bst ?_ GE173.out | refine bst ?_ GE174.out) | exact HB.out)) hb); clear BK173; clear BK174; clear HB; have BK173 := n0_; have BK174 := n1_; have HB := n2_; clear n0_ n1_ n2_; (try clear hb); (try clear hb2); (try clear hk); (try clear hi)))
  (try simp only [Act.put, sit, scz, scs])
  go_cut [26] (fun v26 wc => ∃ (kq : Nat) (x26_5 : Bool), v26 = .bool x26_5 ∧ Aside0 (spec_PowerLoss.j0 kq l1 a2 x26_5 l0_0 l0_1 = some (r1, r2, r3)) ∧ Aside0 (kq ≤ k) ∧ Aside0 (wc.heap[gb173]? = some (.cells #[(.slice A0_0 l0_0.length c0_0), (.slice A0_1 l0_1.length c0_1)] 30 (0, 0))) ∧ Aside0 (wc.heap[gb174]? = some (.cells #[(.slice none 0 0), (.slice none 0 0)] 30 (0, 0))) ∧ Aside0 (Below w.heap.size w wc))
  case first =>
   have H := HC6.out
   clear HC6
   replace H := Option.bind_eq_some_iff.mp H
   obtain ⟨t176, A120, H⟩ := H
   replace H : (if t176 = true then ((spec_l00In.f a2 (-1) 64).bind fun t177 => (spec_PowerLoss.j0 k l1 a2 (!t177) l0_0 l0_1)) else (spec_PowerLoss.j0 k l1 a2 true l0_0 l0_1)) = some (r1, r2, r3) := H
   have A12 := am A120
   clear A120
   by_cases c13 : t176 = true
   ·subst c13
    have H1 : ((spec_l00In.f a2 (-1) 64).bind fun t177 => (spec_PowerLoss.j0 k l1 a2 (!t177) l0_0 l0_1)) = some (r1, r2, r3) := by rw [if_pos rfl] at H; exact H
    clear H
    have H := H1
    clear H1
    replace H := Option.bind_eq_some_iff.mp H
    obtain ⟨t177, A140, H⟩ := H
    replace H : (spec_PowerLoss.j0 k l1 a2 (!t177) l0_0 l0_1) = some (r1, r2, r3) := H
    have A14 := am A140
    clear A140
    have H' := am H
    clear H
    have hnb15 := NB173_174.out
    have hnc15 := NB174_173.out
    have hcz16_0 : w11.cell? ⟨gb173, 0, none⟩ = some (.slice A0_0 l0_0.length c0_0) := (kce BK173.out 0).trans rfl
    have hcz16_1 : w11.cell? ⟨gb173, 1, none⟩ = some (.slice A0_1 l0_1.length c0_1) := (kce BK173.out 1).trans rfl
    have hfz16_0 := kfr BK173.out 0
    have hfz16_1 := kfr BK173.out 1
    go_wp2_with (first | ((with_reducible refine gate_callee (f := 76) rfl ?_); refine goesL_ (some 20) rfl rfl Try.func76 (by kernel_rfl) rfl #[.slice A1 l1.length c1, .int .i64 0, .int .i64 (wrap64 ((l0_1.length : Int) - 1))] rfl (by (try simp only [mta, mco, mni]); first | done | rfl | (simp only [lnd, lnt]; rfl)) ?_; (with_reducible refine (spec_l00Rises.calls k _ _ l1 0 (wrap64 ((l0_1.length : Int) - 1)) true _ ?side1 ?side2 A12.out).mono ?_); (case side1 => repeat (first | exact (Kd.C_below HR1.out HB.out) | (with_reducible first | apply kca | apply kcn | apply kcd))); (case side2 => exact HC1.out); rintro e w' ⟨rfl, ⟨nd, rfl⟩⟩; refine ⟨_, rfl, ?_⟩) | (go_at_call 57; (with_reducible refine (spec_l00In.calls a2 (-1) 64 t177 _ A14.out).mono ?_); rintro e w' ⟨rfl, ⟨nd, rfl⟩⟩))
    go_meet
    case rel => exact ⟨_, (!t177), (by first | rfl | (simp; done) | (simp [*]; done)), H', ⟨by first | omega | exact Nat.le_refl _⟩, ⟨by (with_reducible repeat (first | apply kdn | apply kdr | apply kal)); exact BK173.out⟩, ⟨by (with_reducible repeat (first | apply kdn | apply kdr | apply kal)); exact BK174.out⟩, ⟨by repeat (first | (with_reducible first | exact HB.out | apply bal | apply pdn | apply bd1 | refine bst ?_ GE173.out | refine bst ?_ GE174.out) | exact HB.out)⟩⟩
   ·replace c13 := Bool.eq_false_iff.mpr c13
    subst c13
    have H1 : (spec_PowerLoss.j0 k l1 a2 true l0_0 l0_1) = some (r1, r2, r3) := by rw [if_neg (show ¬ (false = true) by decide)] at H; exact H
    clear H
    have H := H1
    clear H1
    have H' := am H
    clear H
    have hnb17 := NB173_174.out
    have hnc17 := NB174_173.out
    have hcz18_0 : w11.cell? ⟨gb173, 0, none⟩ = some (.slice A0_0 l0_0.length c0_0) := (kce BK173.out 0).trans rfl
    have hcz18_1 : w11.cell? ⟨gb173, 1, none⟩ = some (.slice A0_1 l0_1.length c0_1) := (kce BK173.out 1).trans rfl
    have hfz18_0 := kfr BK173.out 0
    have hfz18_1 := kfr BK173.out 1
    go_wp2_with (first | ((with_reducible refine gate_callee (f := 76) rfl ?_); refine goesL_ (some 20) rfl rfl Try.func76 (by kernel_rfl) rfl #[.slice A1 l1.length c1, .int .i64 0, .int .i64 (wrap64 ((l0_1.length : Int) - 1))] rfl (by (try simp only [mta, mco, mni]); first | done | rfl | (simp only [lnd, lnt]; rfl)) ?_; (with_reducible refine (spec_l00Rises.calls k _ _ l1 0 (wrap64 ((l0_1.length : Int) - 1)) false _ ?side1 ?side2 A12.out).mono ?_); (case side1 => repeat (first | exact (Kd.C_below HR1.out HB.out) | (with_reducible first | apply kca | apply kcn | apply kcd))); (case side2 => exact HC1.out); rintro e w' ⟨rfl, ⟨nd, rfl⟩⟩; refine ⟨_, rfl, ?_⟩))
    go_meet
    case rel => exact ⟨_, (true), (by first | rfl | (simp; done) | (simp [*]; done)), H', ⟨by first | omega | exact Nat.le_refl _⟩, ⟨by (with_reducible repeat (first | apply kdn | apply kdr | apply kal)); exact BK173.out⟩, ⟨by (with_reducible repeat (first | apply kdn | apply kdr | apply kal)); exact BK174.out⟩, ⟨by repeat (first | (with_reducible first | exact HB.out | apply bal | apply pdn | apply bd1 | refine bst ?_ GE173.out | refine bst ?_ GE174.out) | exact HB.out)⟩⟩
  case rest =>
   clear HC6
   obtain ⟨kq, x26_5, rfl, HA, HJ5, BK173, BK174, HB⟩ := hcut
   cases kq with
   | zero => exact absurd HA.out (by simp [spec_PowerLoss.j0])
   | succ kj5 =>
    have H := HA.out
    clear HA
    simp only [spec_PowerLoss.j0] at H
    by_cases c19 : x26_5 = true
    ·subst c19
     have H1 : (some (([] : List ByteArray), ([] : List (S55)), 2)) = some (r1, r2, r3) := by rw [if_pos rfl] at H; exact H
     clear H
     have H := H1
     clear H1
     simp only [Option.some.injEq, Prod.mk.injEq] at H
     obtain ⟨rfl, rfl, rfl⟩ := H
     have hnb20 := NB174_173.out
     have hnc20 := NB173_174.out
     have hcz21_0 : wc.cell? ⟨gb174, 0, none⟩ = some (.slice none 0 0) := (kce BK174.out 0).trans rfl
     have hcz21_1 : wc.cell? ⟨gb174, 1, none⟩ = some (.slice none 0 0) := (kce BK174.out 1).trans rfl
     have hfz21_0 := kfr BK174.out 0
     have hfz21_1 := kfr BK174.out 1
     go_wp2
     refine bodyPost_ret (results_ct rfl _ _ gb174 30 #[.slice none 0 0, .slice none 0 0] (0, 0) _ rfl (by (with_reducible repeat (first | apply kdn | apply kdr | apply kal)); refine blk_put (cs := #[.slice none 0 0, .slice none 0 0]) ?_ 1 _ rfl; (with_reducible repeat (first | apply kdn | apply kdr | apply kal)); refine blk_put (cs := #[.slice none 0 0, .slice none 0 0]) ?_ 0 _ rfl; (with_reducible repeat (first | apply kdn | apply kdr | apply kal)); exact BK174.out) Try.underlying30 rfl (by kernel_rfl)) rfl ?_
     exact ⟨_, _, by first | rfl | (simp [errW_none, errW_some] <;> rfl) | (simp [*, errW_none, errW_some] <;> rfl), by first | exact Kd.R_nil _ _ _ _ _ | exact Kd.N_nil _ _ _ _ _ | exact Kd.V_nil _ _ _ _ _ | exact Kd.Q_nil _ _ _ _ _ | exact Kd.S_nil _ _ _ _ _, by first | exact Kd.R_nil _ _ _ _ _ | exact Kd.N_nil _ _ _ _ _ | exact Kd.V_nil _ _ _ _ _ | exact Kd.Q_nil _ _ _ _ _ | exact Kd.S_nil _ _ _ _ _, by repeat (first | (with_reducible first | exact HB.out | apply bal | apply pdn | apply bd1 | refine bst ?_ GE173.out | refine bst ?_ GE174.out) | exact HB.out)⟩
    ·replace c19 := Bool.eq_false_iff.mpr c19
     subst c19
     have H1 : ((some (([] : List ByteArray) : List ByteArray)).bind fun y178 => (if y178.length + l0_0.length < 8796093022208 then (spec_PowerLoss.l0 kj5 l1 a2 0 l0_0 l0_1 (y178 ++ l0_0)) else (none))) = some (r1, r2, r3) := by rw [if_neg (show ¬ (false = true) by decide)] at H; exact H
     clear H
     have H := H1
     clear H1
     obtain ⟨y178, hy178⟩ : ∃ y_ : List ByteArray, y_ = (([] : List ByteArray)) := ⟨_, rfl⟩
     replace H : (if y178.length + l0_0.length < 8796093022208 then (spec_PowerLoss.l0 kj5 l1 a2 0 l0_0 l0_1 (y178 ++ l0_0)) else (none)) = some (r1, r2, r3) := by first | (rw [hy178]; with_reducible exact H) | (have H2_ := (Option.bind_some _ _).symm.trans H; rw [hy178]; with_reducible exact H2_) | (have H2_ := (Option.bind_some _ _).symm.trans H; with_reducible exact H2_) | with_reducible exact H | (rw [hy178]; exact H) | exact H
     have Ny178 := am hy178
     clear hy178
     by_cases c22 : y178.length + l0_0.length < 8796093022208
     ·rw [if_pos c22] at H
      have LMc22 := am c22
      clear c22
      obtain ⟨y181, hy181⟩ : ∃ y_ : List ByteArray, y_ = (y178 ++ l0_0) := ⟨_, rfl⟩
      replace H : (spec_PowerLoss.l0 kj5 l1 a2 0 l0_0 l0_1 y181) = some (r1, r2, r3) := by first | (rw [hy181]; with_reducible exact H) | (have H2_ := (Option.bind_some _ _).symm.trans H; rw [hy181]; with_reducible exact H2_) | (have H2_ := (Option.bind_some _ _).symm.trans H; with_reducible exact H2_) | with_reducible exact H | (rw [hy181]; exact H) | exact H
      have Ny181 := am hy181
      clear hy181
      have H' := am H
      clear H
      go_wp2_with (first | ((with_reducible refine gate_dst (N := 28) rfl ?_); refine Kd.R_lit Kd.string _ 9 ?hg (N := 28) ?hd (xs := ([] : List ByteArray)) (inner := []) (ok := fun _ => True) (okp := fun _ => True) ?hr ?hp (fun _ hk => hk) trivial (Below.refl _ _) (Nat.le_refl _) (by simp) ?_; (case hd => rfl); (case hg => rfl); (case hr => first | (go_simp; done) | (go_simp; rfl)); (case hp => exact (Reps.none _ _)); intro v179 w23 ho24 hb hg_ hnew_; clear hg_ hnew_; (first | rw [← Ny178.out] at ho24 | (simp only [Int.reduceToNat] at ho24; rw [← Ny178.out] at ho24)); have n0_ := am (Kd.R_lower ho24 (below_size (by repeat (first | (with_reducible first | exact HB.out | apply bal | apply pdn | apply bd1 | refine bst ?_ GE173.out | refine bst ?_ GE174.out) | exact HB.out)))); have n1_ := am (kbb (g := gb173) (o := .cells #[.slice A0_0 l0_0.length c0_0, .slice A0_1 l0_1.length c0_1] 30 (0, 0)) (by (with_reducible repeat (first | apply kdn | apply kdr | apply kal)); exact BK173.out) hb); have n2_ := am (kbb (g := gb174) (o := .cells #[.slice none 0 0, .slice none 0 0] 30 (0, 0)) (by (with_reducible repeat (first | apply kdn | apply kdr | apply kal)); exact BK174.out) hb); have n3_ := am (below_step (by repeat (first | (with_reducible first | exact HB.out | apply bal | apply pdn | apply bd1 | refine bst ?_ GE173.out | refine bst ?_ GE174.out) | exact HB.out)) hb); clear BK173; clear BK174; clear HB; have HO180 := n0_; have BK173 := n1_; have BK174 := n2_; have HB := n3_; clear n0_ n1_ n2_ n3_; clear hb ho24; have hnb25 := NB173_174.out; have hnc25 := NB174_173.out; have hcz26_0 : w23.cell? ⟨gb173, 0, none⟩ = some (.slice A0_0 l0_0.length c0_0) := (kce BK173.out 0).trans rfl; have hcz26_1 : w23.cell? ⟨gb173, 1, none⟩ = some (.slice A0_1 l0_1.length c0_1) := (kce BK173.out 1).trans rfl; have hfz26_0 := kfr BK173.out 0; have hfz26_1 := kfr BK173.out 1) | ((with_reducible refine gate_builtin (b := .append) (xs := #[.tmp 28, .tmp 30]) rfl ?_); at_builtin; refine Kd.R_append_rows Kd.string (w0 := w) w.heap.size rfl (.tmp 28) (.tmp 30) 22 9 (.string ⟨#[]⟩) 16 rfl Try.underlying22 info9 rfl (by decide) (by omega) v179 y178 l0_0 _ _ _ (fun _ => True) (fun _ => False) rfl rfl ?aO ?aR (fun _ _ h => h) (fun _ h => h.elim) ?aF ?aB ?aS ?aL ?_; (case aR => repeat (first | exact (Kd.C_below HR0_0.out HB.out) | (with_reducible first | apply kca | apply kcn | apply kcd))); (case aB => exact (by repeat (first | (with_reducible first | exact HB.out | apply bal | apply pdn | apply bd1 | refine bst ?_ GE173.out | refine bst ?_ GE174.out) | exact HB.out))); (case aF => exact (fun _ _ => trivial)); (case aO => exact (by (with_reducible repeat (first | apply kra | apply krn | apply krd)); exact HO180.out)); (case aS => exact (below_size (by repeat (first | (with_reducible first | exact HB.out | apply bal | apply pdn | apply bd1 | refine bst ?_ GE173.out | refine bst ?_ GE174.out) | exact HB.out)))); (case aL => have := LMc22.out; omega); intro v182 w27 ho hb hg hat; rw [← Ny181.out] at ho; have n0_ := am (blk_grown (g := gb173) (o := .cells #[.slice A0_0 l0_0.length c0_0, .slice A0_1 l0_1.length c0_1] 30 (0, 0)) (by (with_reducible repeat (first | apply kdn | apply kdr | apply kal)); exact BK173.out) hg (Kd.R_ne HO180.out BK173.out (by decide))); have n1_ := am (blk_grown (g := gb174) (o := .cells #[.slice none 0 0, .slice none 0 0] 30 (0, 0)) (by (with_reducible repeat (first | apply kdn | apply kdr | apply kal)); exact BK174.out) hg (Kd.R_ne HO180.out BK174.out (by decide))); have n2_ := am (hb); have n3_ := am (ho); clear BK173; clear BK174; clear HB; clear HO180; have BK173 := n0_; have BK174 := n1_; have HB := n2_; have HO183 := n3_; clear n0_ n1_ n2_ n3_; clear ho hb hg hat; obtain ⟨Ao28, co28, eo28⟩ := Kd.R_slice HO183.out; subst eo28) | ((with_reducible refine gate_dst (N := 8) rfl ?_); refine box_event ?hg (N := 8) ?hd (cs := #[.slice none 0 0, .slice none 0 0]) (t := 30) ?hr ?_; (case hd => rfl); (case hg => rfl); (case hr => first | (go_simp; done) | (go_simp; rfl)); intro gb184 hg w29 hbox hb; have n0_ := am (krb (by (with_reducible repeat (first | apply kra | apply krn | apply krd)); exact HO183.out) hb); have n1_ := am (kbb (g := gb173) (o := .cells #[.slice A0_0 l0_0.length c0_0, .slice A0_1 l0_1.length c0_1] 30 (0, 0)) (by (with_reducible repeat (first | apply kdn | apply kdr | apply kal)); exact BK173.out) hb); have n2_ := am (kbb (g := gb174) (o := .cells #[.slice none 0 0, .slice none 0 0] 30 (0, 0)) (by (with_reducible repeat (first | apply kdn | apply kdr | apply kal)); exact BK174.out) hb); have n3_ := am (below_step (by repeat (first | (with_reducible first | exact HB.out | apply bal | apply pdn | apply bd1 | refine bst ?_ GE173.out | refine bst ?_ GE174.out) | exact HB.out)) hb); have n4_ := am (hbox); have n5_ := am ((by rw [hg]; exact (below_size (by repeat (first | (with_reducible first | exact HB.out | apply bal | apply pdn | apply bd1 | refine bst ?_ GE173.out | refine bst ?_ GE174.out) | exact HB.out))) : w.heap.size ≤ gb184)); have n6_ := am ((by rw [hg]; exact (below_size (by repeat (first | (with_reducible first | exact HB.out | apply bal | apply pdn | apply bd1 | refine bst ?_ GE173.out | refine bst ?_ GE174.out) | exact HB.out))) : w.heap.size ≤ gb184)); have n7_ := am ((by rw [hg]; exact Nat.ne_of_lt (blk_lt (g := gb173) (o := .cells #[.slice A0_0 l0_0.length c0_0, .slice A0_1 l0_1.length c0_1] 30 (0, 0)) (by (with_reducible repeat (first | apply kdn | apply kdr | apply kal)); exact BK173.out)) : gb173 ≠ gb184)); have n8_ := am ((by rw [hg]; exact Nat.ne_of_gt (blk_lt (g := gb173) (o := .cells #[.slice A0_0 l0_0.length c0_0, .slice A0_1 l0_1.length c0_1] 30 (0, 0)) (by (with_reducible repeat (first | apply kdn | apply kdr | apply kal)); exact BK173.out)) : gb184 ≠ gb173)); have n9_ := am ((by rw [hg]; exact Nat.ne_of_lt (blk_lt (g := gb174) (o := .cells #[.slice none 0 0, .slice none 0 0] 30 (0, 0)) (by (with_reducible repeat (first | apply kdn | apply kdr | apply kal)); exact BK174.out)) : gb174 ≠ gb184)); have n10_ := am ((by rw [hg]; exact Nat.ne_of_gt (blk_lt (g := gb174) (o := .cells #[.slice none 0 0, .slice none 0 0] 30 (0, 0)) (by (with_reducible repeat (first | apply kdn | apply kdr | apply kal)); exact BK174.out)) : gb184 ≠ gb174)); clear HO183; clear BK173; clear BK174; clear HB; have HO183 := n0_; have BK173 := n1_; have BK174 := n2_; have HB := n3_; have BK184 := n4_; have GW184 := n5_; have GE184 := n6_; have NB173_184 := n7_; have NB184_173 := n8_; have NB174_184 := n9_; have NB184_174 := n10_; clear n0_ n1_ n2_ n3_ n4_ n5_ n6_ n7_ n8_ n9_ n10_; clear hb hbox hg; have hnb30 := NB184_173.out; have hnc30 := NB173_184.out; have hnb31 := NB184_174.out; have hnc31 := NB174_184.out; have hcz32_0 : w29.cell? ⟨gb184, 0, none⟩ = some (.slice none 0 0) := (kce BK184.out 0).trans rfl; have hcz32_1 : w29.cell? ⟨gb184, 1, none⟩ = some (.slice none 0 0) := (kce BK184.out 1).trans rfl; have hfz32_0 := kfr BK184.out 0; have hfz32_1 := kfr BK184.out 1))
      go_loopg [9] kj5 (fun kq v9 w' => ∃ (x9_2 : Int) (x185000_2 : List ByteArray) (u185000 : Value), v9 = .int .i64 x9_2 ∧ Aside0 (spec_PowerLoss.l0 kq l1 a2 x9_2 l0_0 l0_1 x185000_2 = some (r1, r2, r3)) ∧ Aside0 (kq ≤ kj5) ∧ Aside0 (Kd.R Kd.string 9 w' w.heap.size (fun _ => True) u185000 x185000_2) ∧ Aside0 (w'.heap[gb173]? = some (.cells #[(.slice A0_0 l0_0.length c0_0), (.slice A0_1 l0_1.length c0_1)] 30 (0, 0))) ∧ Aside0 (w'.heap[gb174]? = some (.cells #[(.slice none 0 0), (.slice none 0 0)] 30 (0, 0))) ∧ Aside0 (w'.heap[gb184]? = some (.cells #[u185000, (.slice none 0 0)] 30 (0, 0))) ∧ Aside0 (Below w.heap.size w w'))
      case atStart => exact ⟨(0), (y181), (.slice Ao28 y181.length co28), (by first | rfl | (simp; done) | (simp [*]; done)), H', ⟨Nat.le_refl _⟩, ⟨by (with_reducible repeat (first | apply kra | apply krn | apply krd)); exact Kd.R_mono (kfa (p := ⟨gb184, 1, none⟩) (kfa (p := ⟨gb184, 0, none⟩) (Kd.R_types HO183.out BK184.out (by decide)) (fun _ hk => hk.2) (.slice Ao28 y181.length co28)) (fun _ hk => hk.2) (.slice none 0 0)) (fun _ hk => trivial)⟩, ⟨by (with_reducible repeat (first | apply kdn | apply kdr | apply kal)); refine blk_far ?_ NB173_184.out _; (with_reducible repeat (first | apply kdn | apply kdr | apply kal)); refine blk_far ?_ NB173_184.out _; (with_reducible repeat (first | apply kdn | apply kdr | apply kal)); exact BK173.out⟩, ⟨by (with_reducible repeat (first | apply kdn | apply kdr | apply kal)); refine blk_far ?_ NB174_184.out _; (with_reducible repeat (first | apply kdn | apply kdr | apply kal)); refine blk_far ?_ NB174_184.out _; (with_reducible repeat (first | apply kdn | apply kdr | apply kal)); exact BK174.out⟩, ⟨by (with_reducible repeat (first | apply kdn | apply kdr | apply kal)); refine blk_put (cs := #[.slice Ao28 y181.length co28, .slice none 0 0]) ?_ 1 _ rfl; (with_reducible repeat (first | apply kdn | apply kdr | apply kal)); refine blk_put (cs := #[.slice none 0 0, .slice none 0 0]) ?_ 0 _ rfl; (with_reducible repeat (first | apply kdn | apply kdr | apply kal)); exact BK184.out⟩, ⟨by repeat (first | (with_reducible first | exact HB.out | apply bal | apply pdn | apply bd1 | refine bst ?_ GE173.out | refine bst ?_ GE174.out | refine bst ?_ GE184.out) | exact HB.out)⟩⟩
      case round =>
       clear H'
       obtain ⟨x9_2, x185000_2, u185000, rfl, HA, HK2, HO_185000, BK173, BK174, BK184, HB⟩ := hrel
       cases gk with
       | zero => exact absurd HA.out (by simp [spec_PowerLoss.l0])
       | succ k2 =>
        have H := HA.out
        clear HA
        simp only [spec_PowerLoss.l0] at H
        by_cases c33 : x9_2 < (l1.length : Int)
        ·rw [if_pos c33] at H
         have c33b0 : decide (x9_2 < (l1.length : Int)) = true := decide_eq_true c33
         clear c33
         by_cases c34 : 0 ≤ x9_2
         ·rw [if_pos c34] at H
          have c34b0 : decide (0 ≤ x9_2) = true := decide_eq_true c34
          clear c34
          by_cases c35 : 0 ≤ (rd l1 x9_2)
          ·rw [if_pos c35] at H
           have c35b0 : decide (0 ≤ (rd l1 x9_2)) = true := decide_eq_true c35
           clear c35
           by_cases c36 : (rd l1 x9_2) < (l0_1.length : Int)
           ·rw [if_pos c36] at H
            have c36b0 : decide ((rd l1 x9_2) < (l0_1.length : Int)) = true := decide_eq_true c36
            clear c36
            by_cases c37 : x9_2 = (wrap64 ((l1.length : Int) - 1))
            ·rw [if_pos c37] at H
             have c37b0 : (x9_2 == (wrap64 ((l1.length : Int) - 1))) = true := beq_iff_eq.mpr c37
             have c37b1 : (x9_2 != (wrap64 ((l1.length : Int) - 1))) = false := bne_eq_false_iff_eq.mpr c37
             clear c37
             by_cases c38 : a2 ≥ 0
             ·rw [if_pos c38] at H
              have c38b0 : decide (0 ≤ a2) = true := decide_eq_true c38
              clear c38
              by_cases c39 : 0 ≤ a2
              ·rw [if_pos c39] at H
               have c39b0 := eq_true c39
               have c39b1 : decide (0 ≤ a2) = true := decide_eq_true c39
               clear c39
               by_cases c40 : a2 ≤ (((rd_T55 l0_1 (rd l1 x9_2)).f1).size : Int)
               ·rw [if_pos c40] at H
                have c40b0 := eq_true c40
                have c40b1 : decide (a2 ≤ (((rd_T55 l0_1 (rd l1 x9_2)).f1).size : Int)) = true := decide_eq_true c40
                clear c40
                by_cases c41 : 0 ≤ ((rd_T55 l0_1 (rd l1 x9_2)).f0)
                ·rw [if_pos c41] at H
                 have c41b0 : decide (0 ≤ ((rd_T55 l0_1 (rd l1 x9_2)).f0)) = true := decide_eq_true c41
                 clear c41
                 by_cases c42 : ((rd_T55 l0_1 (rd l1 x9_2)).f0) < (x185000_2.length : Int)
                 ·rw [if_pos c42] at H
                  have c42b0 : decide (((rd_T55 l0_1 (rd l1 x9_2)).f0) < (x185000_2.length : Int)) = true := decide_eq_true c42
                  clear c42
                  have c43b0 := eq_true (of_decide_eq_true (by first | (with_reducible assumption) | assumption) : 0 ≤ a2)
                  by_cases c44 : a2 ≤ ((rdOf ByteArray.empty x185000_2 ((rd_T55 l0_1 (rd l1 x9_2)).f0)).size : Int)
                  ·rw [if_pos c44] at H
                   have c44b0 := eq_true c44
                   have c44b1 : decide (a2 ≤ ((rdOf ByteArray.empty x185000_2 ((rd_T55 l0_1 (rd l1 x9_2)).f0)).size : Int)) = true := decide_eq_true c44
                   clear c44
                   by_cases c45 : (((rd_T55 l0_1 (rd l1 x9_2)).f1).extract 0 (a2 : Int).toNat).size + ((rdOf ByteArray.empty x185000_2 ((rd_T55 l0_1 (rd l1 x9_2)).f0)).extract (a2 : Int).toNat (rdOf ByteArray.empty x185000_2 ((rd_T55 l0_1 (rd l1 x9_2)).f0)).size).size ≤ 9223372036854775807
                   ·rw [if_pos c45] at H
                    try have c45x : (9223372036854775807 < (rdOf ByteArray.empty x185000_2 ((rd_T55 l0_1 (rd l1 x9_2)).f0)).size) = False := eq_false (by have z_ := c45; have z1_ : a2 ≤ (((rd_T55 l0_1 (rd l1 x9_2)).f1).size : Int) := of_decide_eq_true (by assumption); have z2_ : a2 ≤ ((rdOf ByteArray.empty x185000_2 ((rd_T55 l0_1 (rd l1 x9_2)).f0)).size : Int) := of_decide_eq_true (by assumption); simp only [ByteArray.size_extract] at z_; omega)
                    have c45b0 := eq_true c45
                    have c45b1 : decide ((((rd_T55 l0_1 (rd l1 x9_2)).f1).extract 0 (a2 : Int).toNat).size + ((rdOf ByteArray.empty x185000_2 ((rd_T55 l0_1 (rd l1 x9_2)).f0)).extract (a2 : Int).toNat (rdOf ByteArray.empty x185000_2 ((rd_T55 l0_1 (rd l1 x9_2)).f0)).size).size ≤ 9223372036854775807) = true := decide_eq_true c45
                    try have c45b2 : (9223372036854775807 < (((rd_T55 l0_1 (rd l1 x9_2)).f1).extract 0 (a2 : Int).toNat).size + ((rdOf ByteArray.empty x185000_2 ((rd_T55 l0_1 (rd l1 x9_2)).f0)).extract (a2 : Int).toNat (rdOf ByteArray.empty x185000_2 ((rd_T55 l0_1 (rd l1 x9_2)).f0)).size).size) = False := eq_false (Nat.not_lt.2 c45)
                    obtain ⟨y189, hy189⟩ : ∃ y_ : List ByteArray, y_ = (x185000_2.set (((rd_T55 l0_1 (rd l1 x9_2)).f0) : Int).toNat ((((rd_T55 l0_1 (rd l1 x9_2)).f1).extract 0 (a2 : Int).toNat) ++ ((rdOf ByteArray.empty x185000_2 ((rd_T55 l0_1 (rd l1 x9_2)).f0)).extract (a2 : Int).toNat (rdOf ByteArray.empty x185000_2 ((rd_T55 l0_1 (rd l1 x9_2)).f0)).size))) := ⟨_, rfl⟩
                    replace H : (spec_PowerLoss.l0 k2 l1 a2 (wrap64 (x9_2 + 1)) l0_0 l0_1 y189) = some (r1, r2, r3) := by first | (rw [hy189]; with_reducible exact H) | (have H2_ := (Option.bind_some _ _).symm.trans H; rw [hy189]; with_reducible exact H2_) | (have H2_ := (Option.bind_some _ _).symm.trans H; with_reducible exact H2_) | with_reducible exact H | (rw [hy189]; exact H) | exact H
                    have Ny189 := am hy189
                    clear hy189
                    have H' := am H
                    clear H
                    try go_wp2
                    have n0_ := am (krd HO_185000.out)
                    have n1_ := am (kdr BK173.out)
                    have n2_ := am (kdr BK174.out)
                    have n3_ := am (kdr BK184.out)
                    have n4_ := am (bd1 HB.out)
                    clear HO_185000
                    clear BK173
                    clear BK174
                    clear BK184
                    clear HB
                    have HO_185000 := n0_
                    have BK173 := n1_
                    have BK174 := n2_
                    have BK184 := n3_
                    have HB := n4_
                    clear n0_ n1_ n2_ n3_ n4_
                    have p185 : 0 ≤ (x9_2 : Int) := of_decide_eq_true (by first | (with_reducible assumption) | assumption)
                    have q185 : x9_2 < (l1.length : Int) := of_decide_eq_true (by first | (with_reducible assumption) | assumption)
                    obtain ⟨ad185, e185, hx185_0⟩ := Kd.at_int HR1.out x9_2 p185 q185
                    have hw185_0 := hx185_0
                    cases e185
                    replace hx185_0 := (HB.out.cell (blc w _ hx185_0)).trans hx185_0
                    replace p185 := eq_true p185
                    replace q185 := eq_true q185
                    have p186 : 0 ≤ ((rd l1 x9_2) : Int) := of_decide_eq_true (by first | (with_reducible assumption) | assumption)
                    have q186 : (rd l1 x9_2) < (l0_1.length : Int) := of_decide_eq_true (by first | (with_reducible assumption) | assumption)
                    obtain ⟨ad186, e186, hx186_0, hx186_1⟩ := at_T55 HR0_1.out (rd l1 x9_2) p186 q186
                    have hw186_1 := hx186_1
                    have hw186_0 := hx186_0
                    cases e186
                    replace hx186_0 := (HB.out.cell (blc w _ hx186_0)).trans hx186_0
                    replace hx186_1 := (HB.out.cell (blc w _ hx186_1)).trans hx186_1
                    replace p186 := eq_true p186
                    replace q186 := eq_true q186
                    refine start_ (n := 10) (S := fun w' => w'.cell? ⟨gb173, 0, none⟩ = some (.slice A0_0 l0_0.length c0_0) ∧ w'.cell? ⟨gb173, 1, none⟩ = some (.slice (some ad186) l0_1.length c0_1) ∧ w'.cell? (ad185.add (x9_2).toNat) = some (.int .i64 (rd l1 x9_2)) ∧ w'.cell? (ad186.add (((rd l1 x9_2)).toNat * 2)) = some (.int .i64 ((rd_T55 l0_1 (rd l1 x9_2)).f0)) ∧ w'.cell? ⟨(ad186.add (((rd l1 x9_2)).toNat * 2)).block, (ad186.add (((rd l1 x9_2)).toNat * 2)).off + 1, none⟩ = some (.string ((rd_T55 l0_1 (rd l1 x9_2)).f1))) (ds := []) #[false, false, false, false, false, false, false, false, false, false] (by kernel_rfl) rfl rfl ⟨(kce BK173.out 0).trans rfl, (kce BK173.out 1).trans rfl, ((HB.out.cell (blc w _ hw185_0)).trans hw185_0), ((HB.out.cell (blc w _ hw186_0)).trans hw186_0), ((HB.out.cell (blc w _ hw186_1)).trans hw186_1)⟩ (fun hHeld => ?_); refine with_tabW spec_PowerLoss.tab9 spec_PowerLoss.bits9 (fun HT_ HW_ => ?_)
                    generalize wr.drew = w47 at HO_185000 BK173 BK174 BK184 HB hx185_0 hx186_0 hx186_1 hHeld ⊢
                    refine pure_ (i := 0) (N := some 39) (v := ?_) (a' := ?_) #[true, false, false, false, false, false, false, false, false, false] rfl rfl (any_of HT_.out (by kernel_rfl)) (fun _ _ _ h => h) (Or.inl ⟨by rfl, ?_⟩) ?_ ?_
                    rotate_left
                    ·intro w'
                     go_simp
                     with_reducible rfl
                    rotate_left
                    ·simp only [Act.put, sit, scz, scs, i64_w, i32_w]
                     rfl
                    refine pure_ (i := 2) (N := some 41) (v := ?_) (a' := ?_) #[true, false, true, false, false, false, false, false, false, false] rfl rfl (any_of HT_.out (by kernel_rfl)) (fun _ _ _ h => h) (Or.inl ⟨by rfl, ?_⟩) ?_ ?_
                    rotate_left
                    ·intro w'
                     go_simp
                     with_reducible rfl
                    rotate_left
                    ·simp only [Act.put, sit, scz, scs, i64_w, i32_w]
                     rfl
                    refine pure_ (i := 3) (N := some 42) (v := ?_) (a' := ?_) #[true, false, true, true, false, false, false, false, false, false] rfl rfl (any_of HT_.out (by kernel_rfl)) (fun _ _ _ h => h) (Or.inl ⟨by rfl, ?_⟩) ?_ ?_
                    rotate_left
                    ·intro w'
                     go_simp
                     with_reducible rfl
                    rotate_left
                    ·simp only [Act.put, sit, scz, scs, i64_w, i32_w]
                     rfl
                    refine pure_ (i := 4) (N := some 43) (v := ?_) (a' := ?_) #[true, false, true, true, true, false, false, false, false, false] rfl rfl (any_of HT_.out (by kernel_rfl)) (fun _ _ _ h => h) (Or.inl ⟨by rfl, ?_⟩) ?_ ?_
                    rotate_left
                    ·intro w'
                     go_simp
                     with_reducible rfl
                    rotate_left
                    ·simp only [Act.put, sit, scz, scs, i64_w, i32_w]
                     rfl
                    refine take_ (i := 1) (N := some 40) (v := ?_) (a' := ?_) #[true, true, true, true, true, false, false, false, false, false] rfl rfl (take_ofW HT_.out HW_.out (by kernel_rfl)) (fun _ _ _ h => h) (Or.inl ⟨by rfl, ?_⟩) hHeld ?_ ?_
                    rotate_left
                    ·rintro w' ⟨s0, s1, s2, s3, s4⟩
                     go_simp
                     with_reducible rfl
                    rotate_left
                    ·simp only [Act.put, sit, scz, scs, i64_w, i32_w]
                     rfl
                    refine take_ (i := 5) (N := some 44) (v := ?_) (a' := ?_) #[true, true, true, true, true, true, false, false, false, false] rfl rfl (take_ofW HT_.out HW_.out (by kernel_rfl)) (fun _ _ _ h => h) (Or.inl ⟨by rfl, ?_⟩) hHeld ?_ ?_
                    rotate_left
                    ·rintro w' ⟨s0, s1, s2, s3, s4⟩
                     go_simp
                     with_reducible rfl
                    rotate_left
                    ·simp only [Act.put, sit, scz, scs, i64_w, i32_w]
                     rfl
                    refine pure_ (i := 6) (N := some 45) (v := ?_) (a' := ?_) #[true, true, true, true, true, true, true, false, false, false] rfl rfl (any_of HT_.out (by kernel_rfl)) (fun _ _ _ h => h) (Or.inl ⟨by rfl, ?_⟩) ?_ ?_
                    rotate_left
                    ·intro w'
                     go_simp
                     with_reducible rfl
                    rotate_left
                    ·simp only [Act.put, sit, scz, scs, i64_w, i32_w]
                     rfl
                    refine take_ (i := 7) (N := some 46) (v := ?_) (a' := ?_) #[true, true, true, true, true, true, true, true, false, false] rfl rfl (take_ofW HT_.out HW_.out (by kernel_rfl)) (fun _ _ _ h => h) (Or.inl ⟨by rfl, ?_⟩) hHeld ?_ ?_
                    rotate_left
                    ·rintro w' ⟨s0, s1, s2, s3, s4⟩
                     go_simp
                     with_reducible rfl
                    rotate_left
                    ·simp only [Act.put, sit, scz, scs, i64_w, i32_w]
                     rfl
                    refine one_ (i := 8) (N := some 10) #[true, true, true, true, true, true, true, true, true, false] rfl rfl (one_of HT_.out (by kernel_rfl)) (by decide) (fun K hK => ?_)
                    refine box_step ?hg (N := 10) ?hd (cs := #[.int .i64 0, .string (⟨#[]⟩ : ByteArray)]) (t := 55) ?hr ?_; (case hd => rfl); (case hg => rfl); (case hr => first | (go_simp; done) | (go_simp; rfl))
                    intro gb187 hg w48 hbox hb
                    have n0_ := am (krb (by (with_reducible repeat (first | apply kra | apply krn | apply krd)); exact HO_185000.out) hb)
                    have n1_ := am (kbb (g := gb173) (o := .cells #[.slice A0_0 l0_0.length c0_0, .slice (some ad186) l0_1.length c0_1] 30 (0, 0)) (by (with_reducible repeat (first | apply kdn | apply kdr | apply kal)); exact BK173.out) hb)
                    have n2_ := am (kbb (g := gb174) (o := .cells #[.slice none 0 0, .slice none 0 0] 30 (0, 0)) (by (with_reducible repeat (first | apply kdn | apply kdr | apply kal)); exact BK174.out) hb)
                    have n3_ := am (kbb (g := gb184) (o := .cells #[u185000, .slice none 0 0] 30 (0, 0)) (by (with_reducible repeat (first | apply kdn | apply kdr | apply kal)); exact BK184.out) hb)
                    have n4_ := am (below_step (by repeat (first | (with_reducible first | exact HB.out | apply bal | apply pdn | apply bd1 | refine bst ?_ GE173.out | refine bst ?_ GE174.out | refine bst ?_ GE184.out) | exact HB.out)) hb)
                    have n5_ := am (hbox)
                    have n6_ := am ((by rw [hg]; exact (below_size (by repeat (first | (with_reducible first | exact HB.out | apply bal | apply pdn | apply bd1 | refine bst ?_ GE173.out | refine bst ?_ GE174.out | refine bst ?_ GE184.out) | exact HB.out))) : w.heap.size ≤ gb187))
                    have n7_ := am ((by rw [hg]; exact (below_size (by repeat (first | (with_reducible first | exact HB.out | apply bal | apply pdn | apply bd1 | refine bst ?_ GE173.out | refine bst ?_ GE174.out | refine bst ?_ GE184.out) | exact HB.out))) : w.heap.size ≤ gb187))
                    have n8_ := am ((by rw [hg]; exact Nat.ne_of_lt (blk_lt (g := gb173) (o := .cells #[.slice A0_0 l0_0.length c0_0, .slice (some ad186) l0_1.length c0_1] 30 (0, 0)) (by (with_reducible repeat (first | apply kdn | apply kdr | apply kal)); exact BK173.out)) : gb173 ≠ gb187))
                    have n9_ := am ((by rw [hg]; exact Nat.ne_of_gt (blk_lt (g := gb173) (o := .cells #[.slice A0_0 l0_0.length c0_0, .slice (some ad186) l0_1.length c0_1] 30 (0, 0)) (by (with_reducible repeat (first | apply kdn | apply kdr | apply kal)); exact BK173.out)) : gb187 ≠ gb173))
                    have n10_ := am ((by rw [hg]; exact Nat.ne_of_lt (blk_lt (g := gb174) (o := .cells #[.slice none 0 0, .slice none 0 0] 30 (0, 0)) (by (with_reducible repeat (first | apply kdn | apply kdr | apply kal)); exact BK174.out)) : gb174 ≠ gb187))
                    have n11_ := am ((by rw [hg]; exact Nat.ne_of_gt (blk_lt (g := gb174) (o := .cells #[.slice none 0 0, .slice none 0 0] 30 (0, 0)) (by (with_reducible repeat (first | apply kdn | apply kdr | apply kal)); exact BK174.out)) : gb187 ≠ gb174))
                    have n12_ := am ((by rw [hg]; exact Nat.ne_of_lt (blk_lt (g := gb184) (o := .cells #[u185000, .slice none 0 0] 30 (0, 0)) (by (with_reducible repeat (first | apply kdn | apply kdr | apply kal)); exact BK184.out)) : gb184 ≠ gb187))
                    have n13_ := am ((by rw [hg]; exact Nat.ne_of_gt (blk_lt (g := gb184) (o := .cells #[u185000, .slice none 0 0] 30 (0, 0)) (by (with_reducible repeat (first | apply kdn | apply kdr | apply kal)); exact BK184.out)) : gb187 ≠ gb184))
                    clear HO_185000
                    clear BK173
                    clear BK174
                    clear BK184
                    clear HB
                    have HO_185000 := n0_
                    have BK173 := n1_
                    have BK174 := n2_
                    have BK184 := n3_
                    have HB := n4_
                    have BK187 := n5_
                    have GW187 := n6_
                    have GE187 := n7_
                    have NB173_187 := n8_
                    have NB187_173 := n9_
                    have NB174_187 := n10_
                    have NB187_174 := n11_
                    have NB184_187 := n12_
                    have NB187_184 := n13_
                    clear n0_ n1_ n2_ n3_ n4_ n5_ n6_ n7_ n8_ n9_ n10_ n11_ n12_ n13_
                    clear hb hbox hg
                    refine hK.out _ _ ⟨(kce BK173.out 0).trans rfl, (kce BK173.out 1).trans rfl, ((HB.out.cell (blc w _ hw185_0)).trans hw185_0), ((HB.out.cell (blc w _ hw186_0)).trans hw186_0), ((HB.out.cell (blc w _ hw186_1)).trans hw186_1)⟩ (fun hHeld => ?_)
                    clear hK K
                    refine norm_ (a' := ?_) ?_ ?_
                    rotate_left
                    ·show Act.put _ (some 10) _ = _
                     simp only [Act.put, sit, scz, scs, i64_w, i32_w]
                     rfl
                    refine one_ (i := 9) (N := none) #[true, true, true, true, true, true, true, true, true, true] rfl rfl (one_of HT_.out (by kernel_rfl)) (by decide) (fun K hK => ?_)
                    have hs49 : w48.cell? ⟨gb187, 0, none⟩ = some (.int .i64 0) := (kce BK187.out 0).trans rfl
                    have hfs49 := kfr BK187.out 0
                    have hns49_0 := NB173_187.out
                    have hns49_1 := NB174_187.out
                    have hns49_2 := NB184_187.out
                    have hms49_0 := NB187_173.out
                    have hms49_1 := NB187_174.out
                    have hms49_2 := NB187_184.out
                    have hs50 : w48.cell? ⟨gb187, 1, none⟩ = some (.string (⟨#[]⟩ : ByteArray)) := (kce BK187.out 1).trans rfl
                    have hfs50 := kfr BK187.out 1
                    have hns50_0 := NB173_187.out
                    have hns50_1 := NB174_187.out
                    have hns50_2 := NB184_187.out
                    have hms50_0 := NB187_173.out
                    have hms50_1 := NB187_174.out
                    have hms50_2 := NB187_184.out
                    refine skip_ (w1 := ?_) (by rfl) rfl ?_ ?_
                    rotate_left
                    ·go_simp
                     rfl
                    refine hK.out _ _ ⟨((cell_far (p := ⟨gb187, _, none⟩) NB173_187.out _).trans (((cell_far (p := ⟨gb187, _, none⟩) NB173_187.out _).trans (hHeld.1)))), ((cell_far (p := ⟨gb187, _, none⟩) NB173_187.out _).trans (((cell_far (p := ⟨gb187, _, none⟩) NB173_187.out _).trans (hHeld.2.1)))), ((cell_far (p := ⟨gb187, _, none⟩) (by first | exact Nat.ne_of_lt (Nat.lt_of_lt_of_le (by have := blc _ _ hw185_0; first | rwa [add_block] at this | exact this) GW187.out) | (rw [add_block]; exact Nat.ne_of_lt (Nat.lt_of_lt_of_le (by have := blc _ _ hw185_0; first | rwa [add_block] at this | exact this) GW187.out)) | (show (Addr.add _ _).block ≠ _; rw [add_block]; exact Nat.ne_of_lt (Nat.lt_of_lt_of_le (by have := blc _ _ hw185_0; first | rwa [add_block] at this | exact this) GW187.out)) | (dsimp only; exact Nat.ne_of_lt (Nat.lt_of_lt_of_le (by have := blc _ _ hw185_0; first | rwa [add_block] at this | exact this) GW187.out))) _).trans (((cell_far (p := ⟨gb187, _, none⟩) (by first | exact Nat.ne_of_lt (Nat.lt_of_lt_of_le (by have := blc _ _ hw185_0; first | rwa [add_block] at this | exact this) GW187.out) | (rw [add_block]; exact Nat.ne_of_lt (Nat.lt_of_lt_of_le (by have := blc _ _ hw185_0; first | rwa [add_block] at this | exact this) GW187.out)) | (show (Addr.add _ _).block ≠ _; rw [add_block]; exact Nat.ne_of_lt (Nat.lt_of_lt_of_le (by have := blc _ _ hw185_0; first | rwa [add_block] at this | exact this) GW187.out)) | (dsimp only; exact Nat.ne_of_lt (Nat.lt_of_lt_of_le (by have := blc _ _ hw185_0; first | rwa [add_block] at this | exact this) GW187.out))) _).trans (hHeld.2.2.1)))), ((cell_far (p := ⟨gb187, _, none⟩) (by first | exact Nat.ne_of_lt (Nat.lt_of_lt_of_le (by have := blc _ _ hw186_0; first | rwa [add_block] at this | exact this) GW187.out) | (rw [add_block]; exact Nat.ne_of_lt (Nat.lt_of_lt_of_le (by have := blc _ _ hw186_0; first | rwa [add_block] at this | exact this) GW187.out)) | (show (Addr.add _ _).block ≠ _; rw [add_block]; exact Nat.ne_of_lt (Nat.lt_of_lt_of_le (by have := blc _ _ hw186_0; first | rwa [add_block] at this | exact this) GW187.out)) | (dsimp only; exact Nat.ne_of_lt (Nat.lt_of_lt_of_le (by have := blc _ _ hw186_0; first | rwa [add_block] at this | exact this) GW187.out))) _).trans (((cell_far (p := ⟨gb187, _, none⟩) (by first | exact Nat.ne_of_lt (Nat.lt_of_lt_of_le (by have := blc _ _ hw186_0; first | rwa [add_block] at this | exact this) GW187.out) | (rw [add_block]; exact Nat.ne_of_lt (Nat.lt_of_lt_of_le (by have := blc _ _ hw186_0; first | rwa [add_block] at this | exact this) GW187.out)) | (show (Addr.add _ _).block ≠ _; rw [add_block]; exact Nat.ne_of_lt (Nat.lt_of_lt_of_le (by have := blc _ _ hw186_0; first | rwa [add_block] at this | exact this) GW187.out)) | (dsimp only; exact Nat.ne_of_lt (Nat.lt_of_lt_of_le (by have := blc _ _ hw186_0; first | rwa [add_block] at this | exact this) GW187.out))) _).trans (hHeld.2.2.2.1)))), ((cell_far (p := ⟨gb187, _, none⟩) (by first | exact Nat.ne_of_lt (Nat.lt_of_lt_of_le (by have := blc _ _ hw186_1; first | rwa [add_block] at this | exact this) GW187.out) | (rw [add_block]; exact Nat.ne_of_lt (Nat.lt_of_lt_of_le (by have := blc _ _ hw186_1; first | rwa [add_block] at this | exact this) GW187.out)) | (show (Addr.add _ _).block ≠ _; rw [add_block]; exact Nat.ne_of_lt (Nat.lt_of_lt_of_le (by have := blc _ _ hw186_1; first | rwa [add_block] at this | exact this) GW187.out)) | (dsimp only; exact Nat.ne_of_lt (Nat.lt_of_lt_of_le (by have := blc _ _ hw186_1; first | rwa [add_block] at this | exact this) GW187.out))) _).trans (((cell_far (p := ⟨gb187, _, none⟩) (by first | exact Nat.ne_of_lt (Nat.lt_of_lt_of_le (by have := blc _ _ hw186_1; first | rwa [add_block] at this | exact this) GW187.out) | (rw [add_block]; exact Nat.ne_of_lt (Nat.lt_of_lt_of_le (by have := blc _ _ hw186_1; first | rwa [add_block] at this | exact this) GW187.out)) | (show (Addr.add _ _).block ≠ _; rw [add_block]; exact Nat.ne_of_lt (Nat.lt_of_lt_of_le (by have := blc _ _ hw186_1; first | rwa [add_block] at this | exact this) GW187.out)) | (dsimp only; exact Nat.ne_of_lt (Nat.lt_of_lt_of_le (by have := blc _ _ hw186_1; first | rwa [add_block] at this | exact this) GW187.out))) _).trans (hHeld.2.2.2.2))))⟩ (fun hHeld => ?_)
                    clear hK K
                    refine done_ (done_of HT_.out (by kernel_rfl)) ?_
                    try go_wp2
                    have n0_ : Aside0 (Kd.R Kd.string 9 ((w48.setCell ⟨gb187, 0, none⟩ (.int .i64 ((rd_T55 l0_1 (rd l1 x9_2)).f0))).setCell ⟨gb187, 1, none⟩ (.string ((rd_T55 l0_1 (rd l1 x9_2)).f1))) w.heap.size (fun _ => True) u185000 x185000_2) := ⟨by (with_reducible repeat (first | apply kra | apply krn | apply krd)); exact Kd.R_mono (kfa (p := ⟨gb187, 1, none⟩) (kfa (p := ⟨gb187, 0, none⟩) (Kd.R_types HO_185000.out BK187.out (by decide)) (fun _ hk => hk.2) (.int .i64 ((rd_T55 l0_1 (rd l1 x9_2)).f0))) (fun _ hk => hk.2) (.string ((rd_T55 l0_1 (rd l1 x9_2)).f1))) (fun _ hk => trivial)⟩
                    have n1_ : Aside0 (((w48.setCell ⟨gb187, 0, none⟩ (.int .i64 ((rd_T55 l0_1 (rd l1 x9_2)).f0))).setCell ⟨gb187, 1, none⟩ (.string ((rd_T55 l0_1 (rd l1 x9_2)).f1))).heap[gb173]? = some (.cells #[.slice A0_0 l0_0.length c0_0, .slice (some ad186) l0_1.length c0_1] 30 (0, 0))) := ⟨by (with_reducible repeat (first | apply kdn | apply kdr | apply kal)); refine blk_far ?_ NB173_187.out _; (with_reducible repeat (first | apply kdn | apply kdr | apply kal)); refine blk_far ?_ NB173_187.out _; (with_reducible repeat (first | apply kdn | apply kdr | apply kal)); exact BK173.out⟩
                    have n2_ : Aside0 (((w48.setCell ⟨gb187, 0, none⟩ (.int .i64 ((rd_T55 l0_1 (rd l1 x9_2)).f0))).setCell ⟨gb187, 1, none⟩ (.string ((rd_T55 l0_1 (rd l1 x9_2)).f1))).heap[gb174]? = some (.cells #[.slice none 0 0, .slice none 0 0] 30 (0, 0))) := ⟨by (with_reducible repeat (first | apply kdn | apply kdr | apply kal)); refine blk_far ?_ NB174_187.out _; (with_reducible repeat (first | apply kdn | apply kdr | apply kal)); refine blk_far ?_ NB174_187.out _; (with_reducible repeat (first | apply kdn | apply kdr | apply kal)); exact BK174.out⟩
                    have n3_ : Aside0 (((w48.setCell ⟨gb187, 0, none⟩ (.int .i64 ((rd_T55 l0_1 (rd l1 x9_2)).f0))).setCell ⟨gb187, 1, none⟩ (.string ((rd_T55 l0_1 (rd l1 x9_2)).f1))).heap[gb184]? = some (.cells #[u185000, .slice none 0 0] 30 (0, 0))) := ⟨by (with_reducible repeat (first | apply kdn | apply kdr | apply kal)); refine blk_far ?_ NB184_187.out _; (with_reducible repeat (first | apply kdn | apply kdr | apply kal)); refine blk_far ?_ NB184_187.out _; (with_reducible repeat (first | apply kdn | apply kdr | apply kal)); exact BK184.out⟩
                    have n4_ : Aside0 (((w48.setCell ⟨gb187, 0, none⟩ (.int .i64 ((rd_T55 l0_1 (rd l1 x9_2)).f0))).setCell ⟨gb187, 1, none⟩ (.string ((rd_T55 l0_1 (rd l1 x9_2)).f1))).heap[gb187]? = some (.cells #[.int .i64 ((rd_T55 l0_1 (rd l1 x9_2)).f0), .string ((rd_T55 l0_1 (rd l1 x9_2)).f1)] 55 (0, 0))) := ⟨by (with_reducible repeat (first | apply kdn | apply kdr | apply kal)); refine blk_put (cs := #[.int .i64 ((rd_T55 l0_1 (rd l1 x9_2)).f0), .string (⟨#[]⟩ : ByteArray)]) ?_ 1 _ rfl; (with_reducible repeat (first | apply kdn | apply kdr | apply kal)); refine blk_put (cs := #[.int .i64 0, .string (⟨#[]⟩ : ByteArray)]) ?_ 0 _ rfl; (with_reducible repeat (first | apply kdn | apply kdr | apply kal)); exact BK187.out⟩
                    have n5_ : Aside0 (Below w.heap.size w ((w48.setCell ⟨gb187, 0, none⟩ (.int .i64 ((rd_T55 l0_1 (rd l1 x9_2)).f0))).setCell ⟨gb187, 1, none⟩ (.string ((rd_T55 l0_1 (rd l1 x9_2)).f1)))) := ⟨by repeat (first | (with_reducible first | exact HB.out | apply bal | apply pdn | apply bd1 | refine bst ?_ GE173.out | refine bst ?_ GE174.out | refine bst ?_ GE184.out | refine bst ?_ GE187.out) | exact HB.out)⟩
                    (try clear HO_185000)
                    (try clear BK173)
                    (try clear BK174)
                    (try clear BK184)
                    (try clear BK187)
                    (try clear HB)
                    generalize ((w48.setCell ⟨gb187, 0, none⟩ (.int .i64 ((rd_T55 l0_1 (rd l1 x9_2)).f0))).setCell ⟨gb187, 1, none⟩ (.string ((rd_T55 l0_1 (rd l1 x9_2)).f1))) = w51 at n0_ n1_ n2_ n3_ n4_ n5_ ⊢
                    have HO_185000 := n0_
                    have BK173 := n1_
                    have BK174 := n2_
                    have BK184 := n3_
                    have BK187 := n4_
                    have HB := n5_
                    clear n0_ n1_ n2_ n3_ n4_ n5_
                    have n0_ := am (krd HO_185000.out)
                    have n1_ := am (kdr BK173.out)
                    have n2_ := am (kdr BK174.out)
                    have n3_ := am (kdr BK184.out)
                    have n4_ := am (kdr BK187.out)
                    have n5_ := am (bd1 HB.out)
                    clear HO_185000
                    clear BK173
                    clear BK174
                    clear BK184
                    clear BK187
                    clear HB
                    have HO_185000 := n0_
                    have BK173 := n1_
                    have BK174 := n2_
                    have BK184 := n3_
                    have BK187 := n4_
                    have HB := n5_
                    clear n0_ n1_ n2_ n3_ n4_ n5_
                    obtain ⟨Ao53, co53, eo53⟩ := Kd.R_slice HO_185000.out
                    (first | subst eo53 | (injection eo53 with f1_ f2_ f3_; have f4_ := f1_.symm; have f5_ := f3_.symm; clear f1_ f2_ f3_; subst f4_; subst f5_))
                    have p188 : 0 ≤ (((rd_T55 l0_1 (rd l1 x9_2)).f0) : Int) := of_decide_eq_true (by first | (with_reducible assumption) | assumption)
                    have q188 : ((rd_T55 l0_1 (rd l1 x9_2)).f0) < (x185000_2.length : Int) := of_decide_eq_true (by first | (with_reducible assumption) | assumption)
                    obtain ⟨ad188, e188, hx188_0⟩ := Kd.at_string (Kd.R_reads' HO_185000.out).2.2 ((rd_T55 l0_1 (rd l1 x9_2)).f0) p188 q188
                    cases e188
                    replace p188 := eq_true p188
                    replace q188 := eq_true q188
                    refine start_ (n := 15) (S := fun w' => w'.cell? ⟨gb187, 0, none⟩ = some (.int .i64 ((rd_T55 l0_1 (rd l1 x9_2)).f0)) ∧ w'.cell? ⟨gb187, 1, none⟩ = some (.string ((rd_T55 l0_1 (rd l1 x9_2)).f1)) ∧ w'.cell? ⟨gb184, 0, none⟩ = some (.slice (some ad188) x185000_2.length co53) ∧ w'.cell? ⟨gb184, 1, none⟩ = some (.slice none 0 0) ∧ w'.cell? (ad188.add (((rd_T55 l0_1 (rd l1 x9_2)).f0)).toNat) = some (.string (rdOf ByteArray.empty x185000_2 ((rd_T55 l0_1 (rd l1 x9_2)).f0)))) (ds := [14]) #[false, false, false, false, false, false, false, false, false, false, false, false, false, false, false] (by kernel_rfl) rfl rfl ⟨(kce BK187.out 0).trans rfl, (kce BK187.out 1).trans rfl, (kce BK184.out 0).trans rfl, (kce BK184.out 1).trans rfl, hx188_0⟩ (fun hHeld => ?_); refine with_tabW spec_PowerLoss.tab11 spec_PowerLoss.bits11 (fun HT_ HW_ => ?_)
                    generalize w51.drew = w52 at HO_185000 BK173 BK174 BK184 BK187 HB hx188_0 hHeld ⊢
                    refine pure_ (i := 0) (N := some 56) (v := ?_) (a' := ?_) #[true, false, false, false, false, false, false, false, false, false, false, false, false, false, false] rfl rfl (any_of HT_.out (by kernel_rfl)) (fun _ _ _ h => h) (Or.inl ⟨by rfl, ?_⟩) ?_ ?_
                    rotate_left
                    ·intro w'
                     go_simp
                     with_reducible rfl
                    rotate_left
                    ·simp only [Act.put, sit, scz, scs, i64_w, i32_w]
                     rfl
                    refine pure_ (i := 2) (N := some 58) (v := ?_) (a' := ?_) #[true, false, true, false, false, false, false, false, false, false, false, false, false, false, false] rfl rfl (any_of HT_.out (by kernel_rfl)) (fun _ _ _ h => h) (Or.inl ⟨by rfl, ?_⟩) ?_ ?_
                    rotate_left
                    ·intro w'
                     go_simp
                     with_reducible rfl
                    rotate_left
                    ·simp only [Act.put, sit, scz, scs, i64_w, i32_w]
                     rfl
                    refine pure_ (i := 4) (N := some 60) (v := ?_) (a' := ?_) #[true, false, true, false, true, false, false, false, false, false, false, false, false, false, false] rfl rfl (any_of HT_.out (by kernel_rfl)) (fun _ _ _ h => h) (Or.inl ⟨by rfl, ?_⟩) ?_ ?_
                    rotate_left
                    ·intro w'
                     go_simp
                     with_reducible rfl
                    rotate_left
                    ·simp only [Act.put, sit, scz, scs, i64_w, i32_w]
                     rfl
                    refine pure_ (i := 6) (N := some 62) (v := ?_) (a' := ?_) #[true, false, true, false, true, false, true, false, false, false, false, false, false, false, false] rfl rfl (any_of HT_.out (by kernel_rfl)) (fun _ _ _ h => h) (Or.inl ⟨by rfl, ?_⟩) ?_ ?_
                    rotate_left
                    ·intro w'
                     go_simp
                     with_reducible rfl
                    rotate_left
                    ·simp only [Act.put, sit, scz, scs, i64_w, i32_w]
                     rfl
                    refine pure_ (i := 10) (N := some 66) (v := ?_) (a' := ?_) #[true, false, true, false, true, false, true, false, false, false, true, false, false, false, false] rfl rfl (any_of HT_.out (by kernel_rfl)) (fun _ _ _ h => h) (Or.inl ⟨by rfl, ?_⟩) ?_ ?_
                    rotate_left
                    ·intro w'
                     go_simp
                     with_reducible rfl
                    rotate_left
                    ·simp only [Act.put, sit, scz, scs, i64_w, i32_w]
                     rfl
                    refine take_ (i := 1) (N := some 57) (v := ?_) (a' := ?_) #[true, true, true, false, true, false, true, false, false, false, true, false, false, false, false] rfl rfl (take_ofW HT_.out HW_.out (by kernel_rfl)) (fun _ _ _ h => h) (Or.inl ⟨by rfl, ?_⟩) hHeld ?_ ?_
                    rotate_left
                    ·rintro w' ⟨s0, s1, s2, s3, s4⟩
                     go_simp
                     with_reducible rfl
                    rotate_left
                    ·simp only [Act.put, sit, scz, scs, i64_w, i32_w]
                     rfl
                    refine pure_ (i := 3) (N := some 59) (v := ?_) (a' := ?_) #[true, true, true, true, true, false, true, false, false, false, true, false, false, false, false] rfl rfl (any_of HT_.out (by kernel_rfl)) (fun _ _ _ h => h) (Or.inl ⟨by rfl, ?_⟩) ?_ ?_
                    rotate_left
                    ·intro w'
                     go_simp
                     with_reducible rfl
                    rotate_left
                    ·simp only [Act.put, sit, scz, scs, i64_w, i32_w]
                     rfl
                    refine take_ (i := 5) (N := some 61) (v := ?_) (a' := ?_) #[true, true, true, true, true, true, true, false, false, false, true, false, false, false, false] rfl rfl (take_ofW HT_.out HW_.out (by kernel_rfl)) (fun _ _ _ h => h) (Or.inl ⟨by rfl, ?_⟩) hHeld ?_ ?_
                    rotate_left
                    ·rintro w' ⟨s0, s1, s2, s3, s4⟩
                     go_simp
                     with_reducible rfl
                    rotate_left
                    ·simp only [Act.put, sit, scz, scs, i64_w, i32_w]
                     rfl
                    refine take_ (i := 7) (N := some 63) (v := ?_) (a' := ?_) #[true, true, true, true, true, true, true, true, false, false, true, false, false, false, false] rfl rfl (take_ofW HT_.out HW_.out (by kernel_rfl)) (fun _ _ _ h => h) (Or.inl ⟨by rfl, ?_⟩) hHeld ?_ ?_
                    rotate_left
                    ·rintro w' ⟨s0, s1, s2, s3, s4⟩
                     go_simp
                     with_reducible rfl
                    rotate_left
                    ·simp only [Act.put, sit, scz, scs, i64_w, i32_w]
                     rfl
                    refine pure_ (i := 8) (N := some 64) (v := ?_) (a' := ?_) #[true, true, true, true, true, true, true, true, true, false, true, false, false, false, false] rfl rfl (any_of HT_.out (by kernel_rfl)) (fun _ _ _ h => h) (Or.inl ⟨by rfl, ?_⟩) ?_ ?_
                    rotate_left
                    ·intro w'
                     go_simp
                     with_reducible rfl
                    rotate_left
                    ·simp only [Act.put, sit, scz, scs, i64_w, i32_w]
                     rfl
                    refine take_ (i := 9) (N := some 65) (v := ?_) (a' := ?_) #[true, true, true, true, true, true, true, true, true, true, true, false, false, false, false] rfl rfl (take_ofW HT_.out HW_.out (by kernel_rfl)) (fun _ _ _ h => h) (Or.inl ⟨by rfl, ?_⟩) hHeld ?_ ?_
                    rotate_left
                    ·rintro w' ⟨s0, s1, s2, s3, s4⟩
                     go_simp
                     with_reducible rfl
                    rotate_left
                    ·simp only [Act.put, sit, scz, scs, i64_w, i32_w]
                     rfl
                    refine pure_ (i := 11) (N := some 67) (v := ?_) (a' := ?_) #[true, true, true, true, true, true, true, true, true, true, true, true, false, false, false] rfl rfl (any_of HT_.out (by kernel_rfl)) (fun _ _ _ h => h) (Or.inl ⟨by rfl, ?_⟩) ?_ ?_
                    rotate_left
                    ·intro w'
                     go_simp
                     with_reducible rfl
                    rotate_left
                    ·simp only [Act.put, sit, scz, scs, i64_w, i32_w]
                     rfl
                    refine pure_ (i := 12) (N := some 68) (v := ?_) (a' := ?_) #[true, true, true, true, true, true, true, true, true, true, true, true, true, false, false] rfl rfl (any_of HT_.out (by kernel_rfl)) (fun _ _ _ h => h) (Or.inl ⟨by rfl, ?_⟩) ?_ ?_
                    rotate_left
                    ·intro w'
                     go_simp
                     with_reducible rfl
                    rotate_left
                    ·simp only [Act.put, sit, scz, scs, i64_w, i32_w]
                     rfl
                    refine pure_ (i := 13) (N := some 69) (v := ?_) (a' := ?_) #[true, true, true, true, true, true, true, true, true, true, true, true, true, true, false] rfl rfl (any_of HT_.out (by kernel_rfl)) (fun _ _ _ h => h) (Or.inl ⟨by rfl, ?_⟩) ?_ ?_
                    rotate_left
                    ·intro w'
                     go_simp
                     with_reducible rfl
                    rotate_left
                    ·simp only [Act.put, sit, scz, scs, i64_w, i32_w]
                     rfl
                    refine last_ (i := 14) (N := none) #[true, true, true, true, true, true, true, true, true, true, true, true, true, true, true] rfl rfl (one_of HT_.out (by kernel_rfl)) (by decide) (fun K hK => ?_)
                    have hs54 : w52.cell? ⟨gb187, 1, none⟩ = some (.string ((rd_T55 l0_1 (rd l1 x9_2)).f1)) := (kce BK187.out 1).trans rfl
                    have hfs54 := kfr BK187.out 1
                    have hns54_0 := NB173_187.out
                    have hns54_1 := NB174_187.out
                    have hns54_2 := NB184_187.out
                    have hms54_0 := NB187_173.out
                    have hms54_1 := NB187_174.out
                    have hms54_2 := NB187_184.out
                    refine skip_ (w1 := ?_) (by rfl) rfl ?_ ?_
                    rotate_left
                    ·go_simp
                     rfl
                    refine hK.out _ _ ?_
                    clear hK K
                    refine done_ (done_of HT_.out (by kernel_rfl)) ?_
                    have n0_ : Aside0 (Kd.R Kd.string 9 (w52.setCell ⟨gb187, 1, none⟩ (.string ((((rd_T55 l0_1 (rd l1 x9_2)).f1).extract 0 (a2 : Int).toNat) ++ ((rdOf ByteArray.empty x185000_2 ((rd_T55 l0_1 (rd l1 x9_2)).f0)).extract (a2 : Int).toNat (rdOf ByteArray.empty x185000_2 ((rd_T55 l0_1 (rd l1 x9_2)).f0)).size)))) w.heap.size (fun _ => True) (.slice (some ad188) x185000_2.length co53) x185000_2) := ⟨by (with_reducible repeat (first | apply kra | apply krn | apply krd)); exact Kd.R_mono (kfa (p := ⟨gb187, 1, none⟩) (Kd.R_types HO_185000.out BK187.out (by decide)) (fun _ hk => hk.2) (.string ((((rd_T55 l0_1 (rd l1 x9_2)).f1).extract 0 (a2 : Int).toNat) ++ ((rdOf ByteArray.empty x185000_2 ((rd_T55 l0_1 (rd l1 x9_2)).f0)).extract (a2 : Int).toNat (rdOf ByteArray.empty x185000_2 ((rd_T55 l0_1 (rd l1 x9_2)).f0)).size)))) (fun _ hk => trivial)⟩
                    have n1_ : Aside0 ((w52.setCell ⟨gb187, 1, none⟩ (.string ((((rd_T55 l0_1 (rd l1 x9_2)).f1).extract 0 (a2 : Int).toNat) ++ ((rdOf ByteArray.empty x185000_2 ((rd_T55 l0_1 (rd l1 x9_2)).f0)).extract (a2 : Int).toNat (rdOf ByteArray.empty x185000_2 ((rd_T55 l0_1 (rd l1 x9_2)).f0)).size)))).heap[gb173]? = some (.cells #[.slice A0_0 l0_0.length c0_0, .slice (some ad186) l0_1.length c0_1] 30 (0, 0))) := ⟨by (with_reducible repeat (first | apply kdn | apply kdr | apply kal)); refine blk_far ?_ NB173_187.out _; (with_reducible repeat (first | apply kdn | apply kdr | apply kal)); exact BK173.out⟩
                    have n2_ : Aside0 ((w52.setCell ⟨gb187, 1, none⟩ (.string ((((rd_T55 l0_1 (rd l1 x9_2)).f1).extract 0 (a2 : Int).toNat) ++ ((rdOf ByteArray.empty x185000_2 ((rd_T55 l0_1 (rd l1 x9_2)).f0)).extract (a2 : Int).toNat (rdOf ByteArray.empty x185000_2 ((rd_T55 l0_1 (rd l1 x9_2)).f0)).size)))).heap[gb174]? = some (.cells #[.slice none 0 0, .slice none 0 0] 30 (0, 0))) := ⟨by (with_reducible repeat (first | apply kdn | apply kdr | apply kal)); refine blk_far ?_ NB174_187.out _; (with_reducible repeat (first | apply kdn | apply kdr | apply kal)); exact BK174.out⟩
                    have n3_ : Aside0 ((w52.setCell ⟨gb187, 1, none⟩ (.string ((((rd_T55 l0_1 (rd l1 x9_2)).f1).extract 0 (a2 : Int).toNat) ++ ((rdOf ByteArray.empty x185000_2 ((rd_T55 l0_1 (rd l1 x9_2)).f0)).extract (a2 : Int).toNat (rdOf ByteArray.empty x185000_2 ((rd_T55 l0_1 (rd l1 x9_2)).f0)).size)))).heap[gb184]? = some (.cells #[.slice (some ad188) x185000_2.length co53, .slice none 0 0] 30 (0, 0))) := ⟨by (with_reducible repeat (first | apply kdn | apply kdr | apply kal)); refine blk_far ?_ NB184_187.out _; (with_reducible repeat (first | apply kdn | apply kdr | apply kal)); exact BK184.out⟩
                    have n4_ : Aside0 ((w52.setCell ⟨gb187, 1, none⟩ (.string ((((rd_T55 l0_1 (rd l1 x9_2)).f1).extract 0 (a2 : Int).toNat) ++ ((rdOf ByteArray.empty x185000_2 ((rd_T55 l0_1 (rd l1 x9_2)).f0)).extract (a2 : Int).toNat (rdOf ByteArray.empty x185000_2 ((rd_T55 l0_1 (rd l1 x9_2)).f0)).size)))).heap[gb187]? = some (.cells #[.int .i64 ((rd_T55 l0_1 (rd l1 x9_2)).f0), .string ((((rd_T55 l0_1 (rd l1 x9_2)).f1).extract 0 (a2 : Int).toNat) ++ ((rdOf ByteArray.empty x185000_2 ((rd_T55 l0_1 (rd l1 x9_2)).f0)).extract (a2 : Int).toNat (rdOf ByteArray.empty x185000_2 ((rd_T55 l0_1 (rd l1 x9_2)).f0)).size))] 55 (0, 0))) := ⟨by (with_reducible repeat (first | apply kdn | apply kdr | apply kal)); refine blk_put (cs := #[.int .i64 ((rd_T55 l0_1 (rd l1 x9_2)).f0), .string ((rd_T55 l0_1 (rd l1 x9_2)).f1)]) ?_ 1 _ rfl; (with_reducible repeat (first | apply kdn | apply kdr | apply kal)); exact BK187.out⟩
                    have n5_ : Aside0 (Below w.heap.size w (w52.setCell ⟨gb187, 1, none⟩ (.string ((((rd_T55 l0_1 (rd l1 x9_2)).f1).extract 0 (a2 : Int).toNat) ++ ((rdOf ByteArray.empty x185000_2 ((rd_T55 l0_1 (rd l1 x9_2)).f0)).extract (a2 : Int).toNat (rdOf ByteArray.empty x185000_2 ((rd_T55 l0_1 (rd l1 x9_2)).f0)).size))))) := ⟨by repeat (first | (with_reducible first | exact HB.out | apply bal | apply pdn | apply bd1 | refine bst ?_ GE173.out | refine bst ?_ GE174.out | refine bst ?_ GE184.out | refine bst ?_ GE187.out) | exact HB.out)⟩
                    (try clear HO_185000)
                    (try clear BK173)
                    (try clear BK174)
                    (try clear BK184)
                    (try clear BK187)
                    (try clear HB)
                    generalize (w52.setCell ⟨gb187, 1, none⟩ (.string ((((rd_T55 l0_1 (rd l1 x9_2)).f1).extract 0 (a2 : Int).toNat) ++ ((rdOf ByteArray.empty x185000_2 ((rd_T55 l0_1 (rd l1 x9_2)).f0)).extract (a2 : Int).toNat (rdOf ByteArray.empty x185000_2 ((rd_T55 l0_1 (rd l1 x9_2)).f0)).size)))) = w55 at n0_ n1_ n2_ n3_ n4_ n5_ ⊢
                    have HO_185000 := n0_
                    have BK173 := n1_
                    have BK174 := n2_
                    have BK184 := n3_
                    have BK187 := n4_
                    have HB := n5_
                    clear n0_ n1_ n2_ n3_ n4_ n5_
                    have hnb56 := NB184_173.out
                    have hnc56 := NB173_184.out
                    have hnb57 := NB184_174.out
                    have hnc57 := NB174_184.out
                    have hnb58 := NB184_187.out
                    have hnc58 := NB187_184.out
                    have hcz59_0 : w55.cell? ⟨gb184, 0, none⟩ = some (.slice (some ad188) x185000_2.length co53) := (kce BK184.out 0).trans rfl
                    have hcz59_1 : w55.cell? ⟨gb184, 1, none⟩ = some (.slice none 0 0) := (kce BK184.out 1).trans rfl
                    have hfz59_0 := kfr BK184.out 0
                    have hfz59_1 := kfr BK184.out 1
                    have hnb60 := NB187_173.out
                    have hnc60 := NB173_187.out
                    have hnb61 := NB187_174.out
                    have hnc61 := NB174_187.out
                    have hcz62_0 : w55.cell? ⟨gb187, 0, none⟩ = some (.int .i64 ((rd_T55 l0_1 (rd l1 x9_2)).f0)) := (kce BK187.out 0).trans rfl
                    have hcz62_1 : w55.cell? ⟨gb187, 1, none⟩ = some (.string ((((rd_T55 l0_1 (rd l1 x9_2)).f1).extract 0 (a2 : Int).toNat) ++ ((rdOf ByteArray.empty x185000_2 ((rd_T55 l0_1 (rd l1 x9_2)).f0)).extract (a2 : Int).toNat (rdOf ByteArray.empty x185000_2 ((rd_T55 l0_1 (rd l1 x9_2)).f0)).size))) := (kce BK187.out 1).trans rfl
                    have hfz62_0 := kfr BK187.out 0
                    have hfz62_1 := kfr BK187.out 1
                    have p46 : 0 ≤ (((rd_T55 l0_1 (rd l1 x9_2)).f0) : Int) := of_decide_eq_true (by first | (with_reducible assumption) | assumption)
                    have q46 : (((rd_T55 l0_1 (rd l1 x9_2)).f0) : Int) < ((x185000_2.length : Int) : Int) := of_decide_eq_true (by first | (with_reducible assumption) | assumption)
                    obtain ⟨go46, co46, eo46, gb46, gl46, cl46, HG46⟩ := Kd.R_form HO_185000.out (by omega)
                    (first | cases eo46 | (injection eo46 with ea_ en_ ec_; (first | subst ea_ | (injection ea_ with ea_; subst ea_)); subst ec_; clear en_))
                    have GB46 := am gb46
                    have GG46 := am HG46
                    clear gb46 gl46 HG46
                    (first | simp only [add_plain] at hx188_0 | skip)
                    obtain ⟨hx46_0, hf46_0⟩ := Kd.R_celln (⟨#[]⟩ : ByteArray) HO_185000.out (((rd_T55 l0_1 (rd l1 x9_2)).f0) : Int) p46 q46
                    replace p46 := eq_true p46
                    replace q46 := eq_true q46
                    obtain ⟨hy63_, hz63_⟩ := Kd.R_celln (⟨#[]⟩ : ByteArray) HO_185000.out (((rd_T55 l0_1 (rd l1 x9_2)).f0) : Int) (of_decide_eq_true (by first | (with_reducible assumption) | assumption)) (of_decide_eq_true (by first | (with_reducible assumption) | assumption))
                    have HP63 := Kd.R_putg HO_185000.out (((rd_T55 l0_1 (rd l1 x9_2)).f0) : Int) ((((rd_T55 l0_1 (rd l1 x9_2)).f1).extract 0 (a2 : Int).toNat) ++ ((rdOf ByteArray.empty x185000_2 ((rd_T55 l0_1 (rd l1 x9_2)).f0)).extract (a2 : Int).toNat (rdOf ByteArray.empty x185000_2 ((rd_T55 l0_1 (rd l1 x9_2)).f0)).size))
                    try go_wp2_with (first | ((with_reducible refine gate_store (t := 9) (p := 76) rfl ?_); refine store_event (t := 9) (p := 76) (v := ?vo_w64) (w1 := (w55.setCell ⟨go46, (((rd_T55 l0_1 (rd l1 x9_2)).f0) : Int).toNat, none⟩ (.string ((((rd_T55 l0_1 (rd l1 x9_2)).f1).extract 0 (a2 : Int).toNat) ++ ((rdOf ByteArray.empty x185000_2 ((rd_T55 l0_1 (rd l1 x9_2)).f0)).extract (a2 : Int).toNat (rdOf ByteArray.empty x185000_2 ((rd_T55 l0_1 (rd l1 x9_2)).f0)).size))))) ?hg ?ho ?hn ?hr ?_; (case ho => rfl); (case hg => rfl); (case hn => rfl); (case hr => first | (go_simp; done) | (go_simp; rfl)); intro w64 hw; have hg : w55.grownBy w64 (some go46) := (by rw [hw]; exact HP63.2); have hp_ : Kd.R Kd.string 9 w64 w.heap.size (fun _ => True) (.slice (some ⟨go46, 0, none⟩) x185000_2.length co53) y189 := (by rw [hw, Ny189.out]; exact HP63.1); clear HP63; have n0_ := am (hp_); have n1_ := am (blk_grown (g := gb173) (o := .cells #[.slice A0_0 l0_0.length c0_0, .slice (some ad186) l0_1.length c0_1] 30 (0, 0)) (by (with_reducible repeat (first | apply kdn | apply kdr | apply kal)); exact BK173.out) hg (Kd.R_ne HO_185000.out BK173.out (by decide))); have n2_ := am (blk_grown (g := gb174) (o := .cells #[.slice none 0 0, .slice none 0 0] 30 (0, 0)) (by (with_reducible repeat (first | apply kdn | apply kdr | apply kal)); exact BK174.out) hg (Kd.R_ne HO_185000.out BK174.out (by decide))); have n3_ := am (blk_grown (g := gb184) (o := .cells #[.slice (some ⟨go46, 0, none⟩) x185000_2.length co53, .slice none 0 0] 30 (0, 0)) (by (with_reducible repeat (first | apply kdn | apply kdr | apply kal)); exact BK184.out) hg (Kd.R_ne HO_185000.out BK184.out (by decide))); have n4_ := am (blk_grown (g := gb187) (o := .cells #[.int .i64 ((rd_T55 l0_1 (rd l1 x9_2)).f0), .string ((((rd_T55 l0_1 (rd l1 x9_2)).f1).extract 0 (a2 : Int).toNat) ++ ((rdOf ByteArray.empty x185000_2 ((rd_T55 l0_1 (rd l1 x9_2)).f0)).extract (a2 : Int).toNat (rdOf ByteArray.empty x185000_2 ((rd_T55 l0_1 (rd l1 x9_2)).f0)).size))] 55 (0, 0)) (by (with_reducible repeat (first | apply kdn | apply kdr | apply kal)); exact BK187.out) hg (Kd.R_ne HO_185000.out BK187.out (by decide))); have n5_ := am ((by rw [hw]; exact bst (HB.out) GB46.out : Below w.heap.size w w64)); clear HO_185000; clear BK173; clear BK174; clear BK184; clear BK187; clear HB; have HO_185000 := n0_; have BK173 := n1_; have BK174 := n2_; have BK184 := n3_; have BK187 := n4_; have HB := n5_; clear n0_ n1_ n2_ n3_ n4_ n5_; clear hg hw hp_))
                    go_roundg k2
                    case measure => have := HJ5.out; have := HK2.out; omega
                    case rel => exact ⟨(wrap64 (x9_2 + 1)), (y189), (.slice (some ⟨go46, 0, none⟩) x185000_2.length co53), (by first | rfl | (simp; done) | (simp [*]; done)), H', ⟨by have := HJ5.out; have := HK2.out; omega⟩, ⟨by (with_reducible repeat (first | apply kra | apply krn | apply krd)); exact HO_185000.out⟩, ⟨by (with_reducible repeat (first | apply kdn | apply kdr | apply kal)); exact BK173.out⟩, ⟨by (with_reducible repeat (first | apply kdn | apply kdr | apply kal)); exact BK174.out⟩, ⟨by (with_reducible repeat (first | apply kdn | apply kdr | apply kal)); exact BK184.out⟩, ⟨by repeat (first | (with_reducible first | exact HB.out | apply bal | apply pdn | apply bd1 | refine bst ?_ GE173.out | refine bst ?_ GE174.out | refine bst ?_ GE184.out | refine bst ?_ GE187.out) | exact HB.out)⟩⟩
                   ·rw [if_neg c45] at H
                    exact absurd H (by simp)
                  ·rw [if_neg c44] at H
                   exact absurd H (by simp)
                 ·rw [if_neg c42] at H
                  exact absurd H (by simp)
                ·rw [if_neg c41] at H
                 exact absurd H (by simp)
               ·rw [if_neg c40] at H
                exact absurd H (by simp)
              ·rw [if_neg c39] at H
               exact absurd H (by simp)
             ·rw [if_neg c38] at H
              have c38b0 : decide (0 ≤ a2) = false := decide_eq_false c38
              clear c38
              by_cases c65 : 0 ≤ ((rd_T55 l0_1 (rd l1 x9_2)).f0)
              ·rw [if_pos c65] at H
               have c65b0 : decide (0 ≤ ((rd_T55 l0_1 (rd l1 x9_2)).f0)) = true := decide_eq_true c65
               clear c65
               by_cases c66 : ((rd_T55 l0_1 (rd l1 x9_2)).f0) < (x185000_2.length : Int)
               ·rw [if_pos c66] at H
                have c66b0 : decide (((rd_T55 l0_1 (rd l1 x9_2)).f0) < (x185000_2.length : Int)) = true := decide_eq_true c66
                clear c66
                obtain ⟨y190, hy190⟩ : ∃ y_ : List ByteArray, y_ = (x185000_2.set (((rd_T55 l0_1 (rd l1 x9_2)).f0) : Int).toNat ((rd_T55 l0_1 (rd l1 x9_2)).f1)) := ⟨_, rfl⟩
                replace H : (spec_PowerLoss.l0 k2 l1 a2 (wrap64 (x9_2 + 1)) l0_0 l0_1 y190) = some (r1, r2, r3) := by first | (rw [hy190]; with_reducible exact H) | (have H2_ := (Option.bind_some _ _).symm.trans H; rw [hy190]; with_reducible exact H2_) | (have H2_ := (Option.bind_some _ _).symm.trans H; with_reducible exact H2_) | with_reducible exact H | (rw [hy190]; exact H) | exact H
                have Ny190 := am hy190
                clear hy190
                have H' := am H
                clear H
                try go_wp2
                have n0_ := am (krd HO_185000.out)
                have n1_ := am (kdr BK173.out)
                have n2_ := am (kdr BK174.out)
                have n3_ := am (kdr BK184.out)
                have n4_ := am (bd1 HB.out)
                clear HO_185000
                clear BK173
                clear BK174
                clear BK184
                clear HB
                have HO_185000 := n0_
                have BK173 := n1_
                have BK174 := n2_
                have BK184 := n3_
                have HB := n4_
                clear n0_ n1_ n2_ n3_ n4_
                have p185 : 0 ≤ (x9_2 : Int) := of_decide_eq_true (by first | (with_reducible assumption) | assumption)
                have q185 : x9_2 < (l1.length : Int) := of_decide_eq_true (by first | (with_reducible assumption) | assumption)
                obtain ⟨ad185, e185, hx185_0⟩ := Kd.at_int HR1.out x9_2 p185 q185
                have hw185_0 := hx185_0
                cases e185
                replace hx185_0 := (HB.out.cell (blc w _ hx185_0)).trans hx185_0
                replace p185 := eq_true p185
                replace q185 := eq_true q185
                have p186 : 0 ≤ ((rd l1 x9_2) : Int) := of_decide_eq_true (by first | (with_reducible assumption) | assumption)
                have q186 : (rd l1 x9_2) < (l0_1.length : Int) := of_decide_eq_true (by first | (with_reducible assumption) | assumption)
                obtain ⟨ad186, e186, hx186_0, hx186_1⟩ := at_T55 HR0_1.out (rd l1 x9_2) p186 q186
                have hw186_1 := hx186_1
                have hw186_0 := hx186_0
                cases e186
                replace hx186_0 := (HB.out.cell (blc w _ hx186_0)).trans hx186_0
                replace hx186_1 := (HB.out.cell (blc w _ hx186_1)).trans hx186_1
                replace p186 := eq_true p186
                replace q186 := eq_true q186
                refine start_ (n := 10) (S := fun w' => w'.cell? ⟨gb173, 0, none⟩ = some (.slice A0_0 l0_0.length c0_0) ∧ w'.cell? ⟨gb173, 1, none⟩ = some (.slice (some ad186) l0_1.length c0_1) ∧ w'.cell? (ad185.add (x9_2).toNat) = some (.int .i64 (rd l1 x9_2)) ∧ w'.cell? (ad186.add (((rd l1 x9_2)).toNat * 2)) = some (.int .i64 ((rd_T55 l0_1 (rd l1 x9_2)).f0)) ∧ w'.cell? ⟨(ad186.add (((rd l1 x9_2)).toNat * 2)).block, (ad186.add (((rd l1 x9_2)).toNat * 2)).off + 1, none⟩ = some (.string ((rd_T55 l0_1 (rd l1 x9_2)).f1))) (ds := []) #[false, false, false, false, false, false, false, false, false, false] (by kernel_rfl) rfl rfl ⟨(kce BK173.out 0).trans rfl, (kce BK173.out 1).trans rfl, ((HB.out.cell (blc w _ hw185_0)).trans hw185_0), ((HB.out.cell (blc w _ hw186_0)).trans hw186_0), ((HB.out.cell (blc w _ hw186_1)).trans hw186_1)⟩ (fun hHeld => ?_); refine with_tabW spec_PowerLoss.tab9 spec_PowerLoss.bits9 (fun HT_ HW_ => ?_)
                generalize wr.drew = w68 at HO_185000 BK173 BK174 BK184 HB hx185_0 hx186_0 hx186_1 hHeld ⊢
                refine pure_ (i := 0) (N := some 39) (v := ?_) (a' := ?_) #[true, false, false, false, false, false, false, false, false, false] rfl rfl (any_of HT_.out (by kernel_rfl)) (fun _ _ _ h => h) (Or.inl ⟨by rfl, ?_⟩) ?_ ?_
                rotate_left
                ·intro w'
                 go_simp
                 with_reducible rfl
                rotate_left
                ·simp only [Act.put, sit, scz, scs, i64_w, i32_w]
                 rfl
                refine pure_ (i := 2) (N := some 41) (v := ?_) (a' := ?_) #[true, false, true, false, false, false, false, false, false, false] rfl rfl (any_of HT_.out (by kernel_rfl)) (fun _ _ _ h => h) (Or.inl ⟨by rfl, ?_⟩) ?_ ?_
                rotate_left
                ·intro w'
                 go_simp
                 with_reducible rfl
                rotate_left
                ·simp only [Act.put, sit, scz, scs, i64_w, i32_w]
                 rfl
                refine pure_ (i := 3) (N := some 42) (v := ?_) (a' := ?_) #[true, false, true, true, false, false, false, false, false, false] rfl rfl (any_of HT_.out (by kernel_rfl)) (fun _ _ _ h => h) (Or.inl ⟨by rfl, ?_⟩) ?_ ?_
                rotate_left
                ·intro w'
                 go_simp
                 with_reducible rfl
                rotate_left
                ·simp only [Act.put, sit, scz, scs, i64_w, i32_w]
                 rfl
                refine pure_ (i := 4) (N := some 43) (v := ?_) (a' := ?_) #[true, false, true, true, true, false, false, false, false, false] rfl rfl (any_of HT_.out (by kernel_rfl)) (fun _ _ _ h => h) (Or.inl ⟨by rfl, ?_⟩) ?_ ?_
                rotate_left
                ·intro w'
                 go_simp
                 with_reducible rfl
                rotate_left
                ·simp only [Act.put, sit, scz, scs, i64_w, i32_w]
                 rfl
                refine take_ (i := 1) (N := some 40) (v := ?_) (a' := ?_) #[true, true, true, true, true, false, false, false, false, false] rfl rfl (take_ofW HT_.out HW_.out (by kernel_rfl)) (fun _ _ _ h => h) (Or.inl ⟨by rfl, ?_⟩) hHeld ?_ ?_
                rotate_left
                ·rintro w' ⟨s0, s1, s2, s3, s4⟩
                 go_simp
                 with_reducible rfl
                rotate_left
                ·simp only [Act.put, sit, scz, scs, i64_w, i32_w]
                 rfl
                refine take_ (i := 5) (N := some 44) (v := ?_) (a' := ?_) #[true, true, true, true, true, true, false, false, false, false] rfl rfl (take_ofW HT_.out HW_.out (by kernel_rfl)) (fun _ _ _ h => h) (Or.inl ⟨by rfl, ?_⟩) hHeld ?_ ?_
                rotate_left
                ·rintro w' ⟨s0, s1, s2, s3, s4⟩
                 go_simp
                 with_reducible rfl
                rotate_left
                ·simp only [Act.put, sit, scz, scs, i64_w, i32_w]
                 rfl
                refine pure_ (i := 6) (N := some 45) (v := ?_) (a' := ?_) #[true, true, true, true, true, true, true, false, false, false] rfl rfl (any_of HT_.out (by kernel_rfl)) (fun _ _ _ h => h) (Or.inl ⟨by rfl, ?_⟩) ?_ ?_
                rotate_left
                ·intro w'
                 go_simp
                 with_reducible rfl
                rotate_left
                ·simp only [Act.put, sit, scz, scs, i64_w, i32_w]
                 rfl
                refine take_ (i := 7) (N := some 46) (v := ?_) (a' := ?_) #[true, true, true, true, true, true, true, true, false, false] rfl rfl (take_ofW HT_.out HW_.out (by kernel_rfl)) (fun _ _ _ h => h) (Or.inl ⟨by rfl, ?_⟩) hHeld ?_ ?_
                rotate_left
                ·rintro w' ⟨s0, s1, s2, s3, s4⟩
                 go_simp
                 with_reducible rfl
                rotate_left
                ·simp only [Act.put, sit, scz, scs, i64_w, i32_w]
                 rfl
                refine one_ (i := 8) (N := some 10) #[true, true, true, true, true, true, true, true, true, false] rfl rfl (one_of HT_.out (by kernel_rfl)) (by decide) (fun K hK => ?_)
                refine box_step ?hg (N := 10) ?hd (cs := #[.int .i64 0, .string (⟨#[]⟩ : ByteArray)]) (t := 55) ?hr ?_; (case hd => rfl); (case hg => rfl); (case hr => first | (go_simp; done) | (go_simp; rfl))
                intro gb187 hg w69 hbox hb
                have n0_ := am (krb (by (with_reducible repeat (first | apply kra | apply krn | apply krd)); exact HO_185000.out) hb)
                have n1_ := am (kbb (g := gb173) (o := .cells #[.slice A0_0 l0_0.length c0_0, .slice (some ad186) l0_1.length c0_1] 30 (0, 0)) (by (with_reducible repeat (first | apply kdn | apply kdr | apply kal)); exact BK173.out) hb)
                have n2_ := am (kbb (g := gb174) (o := .cells #[.slice none 0 0, .slice none 0 0] 30 (0, 0)) (by (with_reducible repeat (first | apply kdn | apply kdr | apply kal)); exact BK174.out) hb)
                have n3_ := am (kbb (g := gb184) (o := .cells #[u185000, .slice none 0 0] 30 (0, 0)) (by (with_reducible repeat (first | apply kdn | apply kdr | apply kal)); exact BK184.out) hb)
                have n4_ := am (below_step (by repeat (first | (with_reducible first | exact HB.out | apply bal | apply pdn | apply bd1 | refine bst ?_ GE173.out | refine bst ?_ GE174.out | refine bst ?_ GE184.out) | exact HB.out)) hb)
                have n5_ := am (hbox)
                have n6_ := am ((by rw [hg]; exact (below_size (by repeat (first | (with_reducible first | exact HB.out | apply bal | apply pdn | apply bd1 | refine bst ?_ GE173.out | refine bst ?_ GE174.out | refine bst ?_ GE184.out) | exact HB.out))) : w.heap.size ≤ gb187))
                have n7_ := am ((by rw [hg]; exact (below_size (by repeat (first | (with_reducible first | exact HB.out | apply bal | apply pdn | apply bd1 | refine bst ?_ GE173.out | refine bst ?_ GE174.out | refine bst ?_ GE184.out) | exact HB.out))) : w.heap.size ≤ gb187))
                have n8_ := am ((by rw [hg]; exact Nat.ne_of_lt (blk_lt (g := gb173) (o := .cells #[.slice A0_0 l0_0.length c0_0, .slice (some ad186) l0_1.length c0_1] 30 (0, 0)) (by (with_reducible repeat (first | apply kdn | apply kdr | apply kal)); exact BK173.out)) : gb173 ≠ gb187))
                have n9_ := am ((by rw [hg]; exact Nat.ne_of_gt (blk_lt (g := gb173) (o := .cells #[.slice A0_0 l0_0.length c0_0, .slice (some ad186) l0_1.length c0_1] 30 (0, 0)) (by (with_reducible repeat (first | apply kdn | apply kdr | apply kal)); exact BK173.out)) : gb187 ≠ gb173))
                have n10_ := am ((by rw [hg]; exact Nat.ne_of_lt (blk_lt (g := gb174) (o := .cells #[.slice none 0 0, .slice none 0 0] 30 (0, 0)) (by (with_reducible repeat (first | apply kdn | apply kdr | apply kal)); exact BK174.out)) : gb174 ≠ gb187))
                have n11_ := am ((by rw [hg]; exact Nat.ne_of_gt (blk_lt (g := gb174) (o := .cells #[.slice none 0 0, .slice none 0 0] 30 (0, 0)) (by (with_reducible repeat (first | apply kdn | apply kdr | apply kal)); exact BK174.out)) : gb187 ≠ gb174))
                have n12_ := am ((by rw [hg]; exact Nat.ne_of_lt (blk_lt (g := gb184) (o := .cells #[u185000, .slice none 0 0] 30 (0, 0)) (by (with_reducible repeat (first | apply kdn | apply kdr | apply kal)); exact BK184.out)) : gb184 ≠ gb187))
                have n13_ := am ((by rw [hg]; exact Nat.ne_of_gt (blk_lt (g := gb184) (o := .cells #[u185000, .slice none 0 0] 30 (0, 0)) (by (with_reducible repeat (first | apply kdn | apply kdr | apply kal)); exact BK184.out)) : gb187 ≠ gb184))
                clear HO_185000
                clear BK173
                clear BK174
                clear BK184
                clear HB
                have HO_185000 := n0_
                have BK173 := n1_
                have BK174 := n2_
                have BK184 := n3_
                have HB := n4_
                have BK187 := n5_
                have GW187 := n6_
                have GE187 := n7_
                have NB173_187 := n8_
                have NB187_173 := n9_
                have NB174_187 := n10_
                have NB187_174 := n11_
                have NB184_187 := n12_
                have NB187_184 := n13_
                clear n0_ n1_ n2_ n3_ n4_ n5_ n6_ n7_ n8_ n9_ n10_ n11_ n12_ n13_
                clear hb hbox hg
                refine hK.out _ _ ⟨(kce BK173.out 0).trans rfl, (kce BK173.out 1).trans rfl, ((HB.out.cell (blc w _ hw185_0)).trans hw185_0), ((HB.out.cell (blc w _ hw186_0)).trans hw186_0), ((HB.out.cell (blc w _ hw186_1)).trans hw186_1)⟩ (fun hHeld => ?_)
                clear hK K
                refine norm_ (a' := ?_) ?_ ?_
                rotate_left
                ·show Act.put _ (some 10) _ = _
                 simp only [Act.put, sit, scz, scs, i64_w, i32_w]
                 rfl
                refine one_ (i := 9) (N := none) #[true, true, true, true, true, true, true, true, true, true] rfl rfl (one_of HT_.out (by kernel_rfl)) (by decide) (fun K hK => ?_)
                have hs70 : w69.cell? ⟨gb187, 0, none⟩ = some (.int .i64 0) := (kce BK187.out 0).trans rfl
                have hfs70 := kfr BK187.out 0
                have hns70_0 := NB173_187.out
                have hns70_1 := NB174_187.out
                have hns70_2 := NB184_187.out
                have hms70_0 := NB187_173.out
                have hms70_1 := NB187_174.out
                have hms70_2 := NB187_184.out
                have hs71 : w69.cell? ⟨gb187, 1, none⟩ = some (.string (⟨#[]⟩ : ByteArray)) := (kce BK187.out 1).trans rfl
                have hfs71 := kfr BK187.out 1
                have hns71_0 := NB173_187.out
                have hns71_1 := NB174_187.out
                have hns71_2 := NB184_187.out
                have hms71_0 := NB187_173.out
                have hms71_1 := NB187_174.out
                have hms71_2 := NB187_184.out
                refine skip_ (w1 := ?_) (by rfl) rfl ?_ ?_
                rotate_left
                ·go_simp
                 rfl
                refine hK.out _ _ ⟨((cell_far (p := ⟨gb187, _, none⟩) NB173_187.out _).trans (((cell_far (p := ⟨gb187, _, none⟩) NB173_187.out _).trans (hHeld.1)))), ((cell_far (p := ⟨gb187, _, none⟩) NB173_187.out _).trans (((cell_far (p := ⟨gb187, _, none⟩) NB173_187.out _).trans (hHeld.2.1)))), ((cell_far (p := ⟨gb187, _, none⟩) (by first | exact Nat.ne_of_lt (Nat.lt_of_lt_of_le (by have := blc _ _ hw185_0; first | rwa [add_block] at this | exact this) GW187.out) | (rw [add_block]; exact Nat.ne_of_lt (Nat.lt_of_lt_of_le (by have := blc _ _ hw185_0; first | rwa [add_block] at this | exact this) GW187.out)) | (show (Addr.add _ _).block ≠ _; rw [add_block]; exact Nat.ne_of_lt (Nat.lt_of_lt_of_le (by have := blc _ _ hw185_0; first | rwa [add_block] at this | exact this) GW187.out)) | (dsimp only; exact Nat.ne_of_lt (Nat.lt_of_lt_of_le (by have := blc _ _ hw185_0; first | rwa [add_block] at this | exact this) GW187.out))) _).trans (((cell_far (p := ⟨gb187, _, none⟩) (by first | exact Nat.ne_of_lt (Nat.lt_of_lt_of_le (by have := blc _ _ hw185_0; first | rwa [add_block] at this | exact this) GW187.out) | (rw [add_block]; exact Nat.ne_of_lt (Nat.lt_of_lt_of_le (by have := blc _ _ hw185_0; first | rwa [add_block] at this | exact this) GW187.out)) | (show (Addr.add _ _).block ≠ _; rw [add_block]; exact Nat.ne_of_lt (Nat.lt_of_lt_of_le (by have := blc _ _ hw185_0; first | rwa [add_block] at this | exact this) GW187.out)) | (dsimp only; exact Nat.ne_of_lt (Nat.lt_of_lt_of_le (by have := blc _ _ hw185_0; first | rwa [add_block] at this | exact this) GW187.out))) _).trans (hHeld.2.2.1)))), ((cell_far (p := ⟨gb187, _, none⟩) (by first | exact Nat.ne_of_lt (Nat.lt_of_lt_of_le (by have := blc _ _ hw186_0; first | rwa [add_block] at this | exact this) GW187.out) | (rw [add_block]; exact Nat.ne_of_lt (Nat.lt_of_lt_of_le (by have := blc _ _ hw186_0; first | rwa [add_block] at this | exact this) GW187.out)) | (show (Addr.add _ _).block ≠ _; rw [add_block]; exact Nat.ne_of_lt (Nat.lt_of_lt_of_le (by have := blc _ _ hw186_0; first | rwa [add_block] at this | exact this) GW187.out)) | (dsimp only; exact Nat.ne_of_lt (Nat.lt_of_lt_of_le (by have := blc _ _ hw186_0; first | rwa [add_block] at this | exact this) GW187.out))) _).trans (((cell_far (p := ⟨gb187, _, none⟩) (by first | exact Nat.ne_of_lt (Nat.lt_of_lt_of_le (by have := blc _ _ hw186_0; first | rwa [add_block] at this | exact this) GW187.out) | (rw [add_block]; exact Nat.ne_of_lt (Nat.lt_of_lt_of_le (by have := blc _ _ hw186_0; first | rwa [add_block] at this | exact this) GW187.out)) | (show (Addr.add _ _).block ≠ _; rw [add_block]; exact Nat.ne_of_lt (Nat.lt_of_lt_of_le (by have := blc _ _ hw186_0; first | rwa [add_block] at this | exact this) GW187.out)) | (dsimp only; exact Nat.ne_of_lt (Nat.lt_of_lt_of_le (by have := blc _ _ hw186_0; first | rwa [add_block] at this | exact this) GW187.out))) _).trans (hHeld.2.2.2.1)))), ((cell_far (p := ⟨gb187, _, none⟩) (by first | exact Nat.ne_of_lt (Nat.lt_of_lt_of_le (by have := blc _ _ hw186_1; first | rwa [add_block] at this | exact this) GW187.out) | (rw [add_block]; exact Nat.ne_of_lt (Nat.lt_of_lt_of_le (by have := blc _ _ hw186_1; first | rwa [add_block] at this | exact this) GW187.out)) | (show (Addr.add _ _).block ≠ _; rw [add_block]; exact Nat.ne_of_lt (Nat.lt_of_lt_of_le (by have := blc _ _ hw186_1; first | rwa [add_block] at this | exact this) GW187.out)) | (dsimp only; exact Nat.ne_of_lt (Nat.lt_of_lt_of_le (by have := blc _ _ hw186_1; first | rwa [add_block] at this | exact this) GW187.out))) _).trans (((cell_far (p := ⟨gb187, _, none⟩) (by first | exact Nat.ne_of_lt (Nat.lt_of_lt_of_le (by have := blc _ _ hw186_1; first | rwa [add_block] at this | exact this) GW187.out) | (rw [add_block]; exact Nat.ne_of_lt (Nat.lt_of_lt_of_le (by have := blc _ _ hw186_1; first | rwa [add_block] at this | exact this) GW187.out)) | (show (Addr.add _ _).block ≠ _; rw [add_block]; exact Nat.ne_of_lt (Nat.lt_of_lt_of_le (by have := blc _ _ hw186_1; first | rwa [add_block] at this | exact this) GW187.out)) | (dsimp only; exact Nat.ne_of_lt (Nat.lt_of_lt_of_le (by have := blc _ _ hw186_1; first | rwa [add_block] at this | exact this) GW187.out))) _).trans (hHeld.2.2.2.2))))⟩ (fun hHeld => ?_)
                clear hK K
                refine done_ (done_of HT_.out (by kernel_rfl)) ?_
                have n0_ : Aside0 (Kd.R Kd.string 9 ((w69.setCell ⟨gb187, 0, none⟩ (.int .i64 ((rd_T55 l0_1 (rd l1 x9_2)).f0))).setCell ⟨gb187, 1, none⟩ (.string ((rd_T55 l0_1 (rd l1 x9_2)).f1))) w.heap.size (fun _ => True) u185000 x185000_2) := ⟨by (with_reducible repeat (first | apply kra | apply krn | apply krd)); exact Kd.R_mono (kfa (p := ⟨gb187, 1, none⟩) (kfa (p := ⟨gb187, 0, none⟩) (Kd.R_types HO_185000.out BK187.out (by decide)) (fun _ hk => hk.2) (.int .i64 ((rd_T55 l0_1 (rd l1 x9_2)).f0))) (fun _ hk => hk.2) (.string ((rd_T55 l0_1 (rd l1 x9_2)).f1))) (fun _ hk => trivial)⟩
                have n1_ : Aside0 (((w69.setCell ⟨gb187, 0, none⟩ (.int .i64 ((rd_T55 l0_1 (rd l1 x9_2)).f0))).setCell ⟨gb187, 1, none⟩ (.string ((rd_T55 l0_1 (rd l1 x9_2)).f1))).heap[gb173]? = some (.cells #[.slice A0_0 l0_0.length c0_0, .slice (some ad186) l0_1.length c0_1] 30 (0, 0))) := ⟨by (with_reducible repeat (first | apply kdn | apply kdr | apply kal)); refine blk_far ?_ NB173_187.out _; (with_reducible repeat (first | apply kdn | apply kdr | apply kal)); refine blk_far ?_ NB173_187.out _; (with_reducible repeat (first | apply kdn | apply kdr | apply kal)); exact BK173.out⟩
                have n2_ : Aside0 (((w69.setCell ⟨gb187, 0, none⟩ (.int .i64 ((rd_T55 l0_1 (rd l1 x9_2)).f0))).setCell ⟨gb187, 1, none⟩ (.string ((rd_T55 l0_1 (rd l1 x9_2)).f1))).heap[gb174]? = some (.cells #[.slice none 0 0, .slice none 0 0] 30 (0, 0))) := ⟨by (with_reducible repeat (first | apply kdn | apply kdr | apply kal)); refine blk_far ?_ NB174_187.out _; (with_reducible repeat (first | apply kdn | apply kdr | apply kal)); refine blk_far ?_ NB174_187.out _; (with_reducible repeat (first | apply kdn | apply kdr | apply kal)); exact BK174.out⟩
                have n3_ : Aside0 (((w69.setCell ⟨gb187, 0, none⟩ (.int .i64 ((rd_T55 l0_1 (rd l1 x9_2)).f0))).setCell ⟨gb187, 1, none⟩ (.string ((rd_T55 l0_1 (rd l1 x9_2)).f1))).heap[gb184]? = some (.cells #[u185000, .slice none 0 0] 30 (0, 0))) := ⟨by (with_reducible repeat (first | apply kdn | apply kdr | apply kal)); refine blk_far ?_ NB184_187.out _; (with_reducible repeat (first | apply kdn | apply kdr | apply kal)); refine blk_far ?_ NB184_187.out _; (with_reducible repeat (first | apply kdn | apply kdr | apply kal)); exact BK184.out⟩
                have n4_ : Aside0 (((w69.setCell ⟨gb187, 0, none⟩ (.int .i64 ((rd_T55 l0_1 (rd l1 x9_2)).f0))).setCell ⟨gb187, 1, none⟩ (.string ((rd_T55 l0_1 (rd l1 x9_2)).f1))).heap[gb187]? = some (.cells #[.int .i64 ((rd_T55 l0_1 (rd l1 x9_2)).f0), .string ((rd_T55 l0_1 (rd l1 x9_2)).f1)] 55 (0, 0))) := ⟨by (with_reducible repeat (first | apply kdn | apply kdr | apply kal)); refine blk_put (cs := #[.int .i64 ((rd_T55 l0_1 (rd l1 x9_2)).f0), .string (⟨#[]⟩ : ByteArray)]) ?_ 1 _ rfl; (with_reducible repeat (first | apply kdn | apply kdr | apply kal)); refine blk_put (cs := #[.int .i64 0, .string (⟨#[]⟩ : ByteArray)]) ?_ 0 _ rfl; (with_reducible repeat (first | apply kdn | apply kdr | apply kal)); exact BK187.out⟩
                have n5_ : Aside0 (Below w.heap.size w ((w69.setCell ⟨gb187, 0, none⟩ (.int .i64 ((rd_T55 l0_1 (rd l1 x9_2)).f0))).setCell ⟨gb187, 1, none⟩ (.string ((rd_T55 l0_1 (rd l1 x9_2)).f1)))) := ⟨by repeat (first | (with_reducible first | exact HB.out | apply bal | apply pdn | apply bd1 | refine bst ?_ GE173.out | refine bst ?_ GE174.out | refine bst ?_ GE184.out | refine bst ?_ GE187.out) | exact HB.out)⟩
                (try clear HO_185000)
                (try clear BK173)
                (try clear BK174)
                (try clear BK184)
                (try clear BK187)
                (try clear HB)
                generalize ((w69.setCell ⟨gb187, 0, none⟩ (.int .i64 ((rd_T55 l0_1 (rd l1 x9_2)).f0))).setCell ⟨gb187, 1, none⟩ (.string ((rd_T55 l0_1 (rd l1 x9_2)).f1))) = w72 at n0_ n1_ n2_ n3_ n4_ n5_ ⊢
                have HO_185000 := n0_
                have BK173 := n1_
                have BK174 := n2_
                have BK184 := n3_
                have BK187 := n4_
                have HB := n5_
                clear n0_ n1_ n2_ n3_ n4_ n5_
                have hnb73 := NB184_173.out
                have hnc73 := NB173_184.out
                have hnb74 := NB184_174.out
                have hnc74 := NB174_184.out
                have hnb75 := NB184_187.out
                have hnc75 := NB187_184.out
                have hcz76_0 : w72.cell? ⟨gb184, 0, none⟩ = some (u185000) := (kce BK184.out 0).trans rfl
                have hcz76_1 : w72.cell? ⟨gb184, 1, none⟩ = some (.slice none 0 0) := (kce BK184.out 1).trans rfl
                have hfz76_0 := kfr BK184.out 0
                have hfz76_1 := kfr BK184.out 1
                have hnb77 := NB187_173.out
                have hnc77 := NB173_187.out
                have hnb78 := NB187_174.out
                have hnc78 := NB174_187.out
                have hcz79_0 : w72.cell? ⟨gb187, 0, none⟩ = some (.int .i64 ((rd_T55 l0_1 (rd l1 x9_2)).f0)) := (kce BK187.out 0).trans rfl
                have hcz79_1 : w72.cell? ⟨gb187, 1, none⟩ = some (.string ((rd_T55 l0_1 (rd l1 x9_2)).f1)) := (kce BK187.out 1).trans rfl
                have hfz79_0 := kfr BK187.out 0
                have hfz79_1 := kfr BK187.out 1
                have p67 : 0 ≤ (((rd_T55 l0_1 (rd l1 x9_2)).f0) : Int) := of_decide_eq_true (by first | (with_reducible assumption) | assumption)
                have q67 : (((rd_T55 l0_1 (rd l1 x9_2)).f0) : Int) < ((x185000_2.length : Int) : Int) := of_decide_eq_true (by first | (with_reducible assumption) | assumption)
                obtain ⟨go67, co67, eo67, gb67, gl67, cl67, HG67⟩ := Kd.R_form HO_185000.out (by omega)
                (first | cases eo67 | (injection eo67 with ea_ en_ ec_; (first | subst ea_ | (injection ea_ with ea_; subst ea_)); subst ec_; clear en_))
                have GB67 := am gb67
                have GG67 := am HG67
                clear gb67 gl67 HG67
                obtain ⟨hx67_0, hf67_0⟩ := Kd.R_celln (⟨#[]⟩ : ByteArray) HO_185000.out (((rd_T55 l0_1 (rd l1 x9_2)).f0) : Int) p67 q67
                replace p67 := eq_true p67
                replace q67 := eq_true q67
                obtain ⟨hy80_, hz80_⟩ := Kd.R_celln (⟨#[]⟩ : ByteArray) HO_185000.out (((rd_T55 l0_1 (rd l1 x9_2)).f0) : Int) (of_decide_eq_true (by first | (with_reducible assumption) | assumption)) (of_decide_eq_true (by first | (with_reducible assumption) | assumption))
                have HP80 := Kd.R_putg HO_185000.out (((rd_T55 l0_1 (rd l1 x9_2)).f0) : Int) ((rd_T55 l0_1 (rd l1 x9_2)).f1)
                try go_wp2_with (first | ((with_reducible refine gate_store (t := 9) (p := 76) rfl ?_); refine store_event (t := 9) (p := 76) (v := ?vo_w81) (w1 := (w72.setCell ⟨go67, (((rd_T55 l0_1 (rd l1 x9_2)).f0) : Int).toNat, none⟩ (.string ((rd_T55 l0_1 (rd l1 x9_2)).f1)))) ?hg ?ho ?hn ?hr ?_; (case ho => rfl); (case hg => rfl); (case hn => rfl); (case hr => first | (go_simp; done) | (go_simp; rfl)); intro w81 hw; have hg : w72.grownBy w81 (some go67) := (by rw [hw]; exact HP80.2); have hp_ : Kd.R Kd.string 9 w81 w.heap.size (fun _ => True) (.slice (some ⟨go67, 0, none⟩) x185000_2.length co67) y190 := (by rw [hw, Ny190.out]; exact HP80.1); clear HP80; have n0_ := am (hp_); have n1_ := am (blk_grown (g := gb173) (o := .cells #[.slice A0_0 l0_0.length c0_0, .slice (some ad186) l0_1.length c0_1] 30 (0, 0)) (by (with_reducible repeat (first | apply kdn | apply kdr | apply kal)); exact BK173.out) hg (Kd.R_ne HO_185000.out BK173.out (by decide))); have n2_ := am (blk_grown (g := gb174) (o := .cells #[.slice none 0 0, .slice none 0 0] 30 (0, 0)) (by (with_reducible repeat (first | apply kdn | apply kdr | apply kal)); exact BK174.out) hg (Kd.R_ne HO_185000.out BK174.out (by decide))); have n3_ := am (blk_grown (g := gb184) (o := .cells #[.slice (some ⟨go67, 0, none⟩) x185000_2.length co67, .slice none 0 0] 30 (0, 0)) (by (with_reducible repeat (first | apply kdn | apply kdr | apply kal)); exact BK184.out) hg (Kd.R_ne HO_185000.out BK184.out (by decide))); have n4_ := am (blk_grown (g := gb187) (o := .cells #[.int .i64 ((rd_T55 l0_1 (rd l1 x9_2)).f0), .string ((rd_T55 l0_1 (rd l1 x9_2)).f1)] 55 (0, 0)) (by (with_reducible repeat (first | apply kdn | apply kdr | apply kal)); exact BK187.out) hg (Kd.R_ne HO_185000.out BK187.out (by decide))); have n5_ := am ((by rw [hw]; exact bst (HB.out) GB67.out : Below w.heap.size w w81)); clear HO_185000; clear BK173; clear BK174; clear BK184; clear BK187; clear HB; have HO_185000 := n0_; have BK173 := n1_; have BK174 := n2_; have BK184 := n3_; have BK187 := n4_; have HB := n5_; clear n0_ n1_ n2_ n3_ n4_ n5_; clear hg hw hp_))
                go_roundg k2
                case measure => have := HJ5.out; have := HK2.out; omega
                case rel => exact ⟨(wrap64 (x9_2 + 1)), (y190), (.slice (some ⟨go67, 0, none⟩) x185000_2.length co67), (by first | rfl | (simp; done) | (simp [*]; done)), H', ⟨by have := HJ5.out; have := HK2.out; omega⟩, ⟨by (with_reducible repeat (first | apply kra | apply krn | apply krd)); exact HO_185000.out⟩, ⟨by (with_reducible repeat (first | apply kdn | apply kdr | apply kal)); exact BK173.out⟩, ⟨by (with_reducible repeat (first | apply kdn | apply kdr | apply kal)); exact BK174.out⟩, ⟨by (with_reducible repeat (first | apply kdn | apply kdr | apply kal)); exact BK184.out⟩, ⟨by repeat (first | (with_reducible first | exact HB.out | apply bal | apply pdn | apply bd1 | refine bst ?_ GE173.out | refine bst ?_ GE174.out | refine bst ?_ GE184.out | refine bst ?_ GE187.out) | exact HB.out)⟩⟩
               ·rw [if_neg c66] at H
                exact absurd H (by simp)
              ·rw [if_neg c65] at H
               exact absurd H (by simp)
            ·rw [if_neg c37] at H
             have c37b0 : (x9_2 == (wrap64 ((l1.length : Int) - 1))) = false := beq_eq_false_iff_ne.mpr c37
             have c37b1 : (x9_2 != (wrap64 ((l1.length : Int) - 1))) = true := bne_iff_ne.mpr c37
             by_cases c82 : 0 ≤ ((rd_T55 l0_1 (rd l1 x9_2)).f0)
             ·rw [if_pos c82] at H
              have c82b0 : decide (0 ≤ ((rd_T55 l0_1 (rd l1 x9_2)).f0)) = true := decide_eq_true c82
              clear c82
              by_cases c83 : ((rd_T55 l0_1 (rd l1 x9_2)).f0) < (x185000_2.length : Int)
              ·rw [if_pos c83] at H
               have c83b0 : decide (((rd_T55 l0_1 (rd l1 x9_2)).f0) < (x185000_2.length : Int)) = true := decide_eq_true c83
               clear c83
               obtain ⟨y191, hy191⟩ : ∃ y_ : List ByteArray, y_ = (x185000_2.set (((rd_T55 l0_1 (rd l1 x9_2)).f0) : Int).toNat ((rd_T55 l0_1 (rd l1 x9_2)).f1)) := ⟨_, rfl⟩
               replace H : (spec_PowerLoss.l0 k2 l1 a2 (wrap64 (x9_2 + 1)) l0_0 l0_1 y191) = some (r1, r2, r3) := by first | (rw [hy191]; with_reducible exact H) | (have H2_ := (Option.bind_some _ _).symm.trans H; rw [hy191]; with_reducible exact H2_) | (have H2_ := (Option.bind_some _ _).symm.trans H; with_reducible exact H2_) | with_reducible exact H | (rw [hy191]; exact H) | exact H
               have Ny191 := am hy191
               clear hy191
               have H' := am H
               clear H
               try go_wp2
               have n0_ := am (krd HO_185000.out)
               have n1_ := am (kdr BK173.out)
               have n2_ := am (kdr BK174.out)
               have n3_ := am (kdr BK184.out)
               have n4_ := am (bd1 HB.out)
               clear HO_185000
               clear BK173
               clear BK174
               clear BK184
               clear HB
               have HO_185000 := n0_
               have BK173 := n1_
               have BK174 := n2_
               have BK184 := n3_
               have HB := n4_
               clear n0_ n1_ n2_ n3_ n4_
               have p185 : 0 ≤ (x9_2 : Int) := of_decide_eq_true (by first | (with_reducible assumption) | assumption)
               have q185 : x9_2 < (l1.length : Int) := of_decide_eq_true (by first | (with_reducible assumption) | assumption)
               obtain ⟨ad185, e185, hx185_0⟩ := Kd.at_int HR1.out x9_2 p185 q185
               have hw185_0 := hx185_0
               cases e185
               replace hx185_0 := (HB.out.cell (blc w _ hx185_0)).trans hx185_0
               replace p185 := eq_true p185
               replace q185 := eq_true q185
               have p186 : 0 ≤ ((rd l1 x9_2) : Int) := of_decide_eq_true (by first | (with_reducible assumption) | assumption)
               have q186 : (rd l1 x9_2) < (l0_1.length : Int) := of_decide_eq_true (by first | (with_reducible assumption) | assumption)
               obtain ⟨ad186, e186, hx186_0, hx186_1⟩ := at_T55 HR0_1.out (rd l1 x9_2) p186 q186
               have hw186_1 := hx186_1
               have hw186_0 := hx186_0
               cases e186
               replace hx186_0 := (HB.out.cell (blc w _ hx186_0)).trans hx186_0
               replace hx186_1 := (HB.out.cell (blc w _ hx186_1)).trans hx186_1
               replace p186 := eq_true p186
               replace q186 := eq_true q186
               refine start_ (n := 10) (S := fun w' => w'.cell? ⟨gb173, 0, none⟩ = some (.slice A0_0 l0_0.length c0_0) ∧ w'.cell? ⟨gb173, 1, none⟩ = some (.slice (some ad186) l0_1.length c0_1) ∧ w'.cell? (ad185.add (x9_2).toNat) = some (.int .i64 (rd l1 x9_2)) ∧ w'.cell? (ad186.add (((rd l1 x9_2)).toNat * 2)) = some (.int .i64 ((rd_T55 l0_1 (rd l1 x9_2)).f0)) ∧ w'.cell? ⟨(ad186.add (((rd l1 x9_2)).toNat * 2)).block, (ad186.add (((rd l1 x9_2)).toNat * 2)).off + 1, none⟩ = some (.string ((rd_T55 l0_1 (rd l1 x9_2)).f1))) (ds := []) #[false, false, false, false, false, false, false, false, false, false] (by kernel_rfl) rfl rfl ⟨(kce BK173.out 0).trans rfl, (kce BK173.out 1).trans rfl, ((HB.out.cell (blc w _ hw185_0)).trans hw185_0), ((HB.out.cell (blc w _ hw186_0)).trans hw186_0), ((HB.out.cell (blc w _ hw186_1)).trans hw186_1)⟩ (fun hHeld => ?_); refine with_tabW spec_PowerLoss.tab9 spec_PowerLoss.bits9 (fun HT_ HW_ => ?_)
               generalize wr.drew = w85 at HO_185000 BK173 BK174 BK184 HB hx185_0 hx186_0 hx186_1 hHeld ⊢
               refine pure_ (i := 0) (N := some 39) (v := ?_) (a' := ?_) #[true, false, false, false, false, false, false, false, false, false] rfl rfl (any_of HT_.out (by kernel_rfl)) (fun _ _ _ h => h) (Or.inl ⟨by rfl, ?_⟩) ?_ ?_
               rotate_left
               ·intro w'
                go_simp
                with_reducible rfl
               rotate_left
               ·simp only [Act.put, sit, scz, scs, i64_w, i32_w]
                rfl
               refine pure_ (i := 2) (N := some 41) (v := ?_) (a' := ?_) #[true, false, true, false, false, false, false, false, false, false] rfl rfl (any_of HT_.out (by kernel_rfl)) (fun _ _ _ h => h) (Or.inl ⟨by rfl, ?_⟩) ?_ ?_
               rotate_left
               ·intro w'
                go_simp
                with_reducible rfl
               rotate_left
               ·simp only [Act.put, sit, scz, scs, i64_w, i32_w]
                rfl
               refine pure_ (i := 3) (N := some 42) (v := ?_) (a' := ?_) #[true, false, true, true, false, false, false, false, false, false] rfl rfl (any_of HT_.out (by kernel_rfl)) (fun _ _ _ h => h) (Or.inl ⟨by rfl, ?_⟩) ?_ ?_
               rotate_left
               ·intro w'
                go_simp
                with_reducible rfl
               rotate_left
               ·simp only [Act.put, sit, scz, scs, i64_w, i32_w]
                rfl
               refine pure_ (i := 4) (N := some 43) (v := ?_) (a' := ?_) #[true, false, true, true, true, false, false, false, false, false] rfl rfl (any_of HT_.out (by kernel_rfl)) (fun _ _ _ h => h) (Or.inl ⟨by rfl, ?_⟩) ?_ ?_
               rotate_left
               ·intro w'
                go_simp
                with_reducible rfl
               rotate_left
               ·simp only [Act.put, sit, scz, scs, i64_w, i32_w]
                rfl
               refine take_ (i := 1) (N := some 40) (v := ?_) (a' := ?_) #[true, true, true, true, true, false, false, false, false, false] rfl rfl (take_ofW HT_.out HW_.out (by kernel_rfl)) (fun _ _ _ h => h) (Or.inl ⟨by rfl, ?_⟩) hHeld ?_ ?_
               rotate_left
               ·rintro w' ⟨s0, s1, s2, s3, s4⟩
                go_simp
                with_reducible rfl
               rotate_left
               ·simp only [Act.put, sit, scz, scs, i64_w, i32_w]
                rfl
               refine take_ (i := 5) (N := some 44) (v := ?_) (a' := ?_) #[true, true, true, true, true, true, false, false, false, false] rfl rfl (take_ofW HT_.out HW_.out (by kernel_rfl)) (fun _ _ _ h => h) (Or.inl ⟨by rfl, ?_⟩) hHeld ?_ ?_
               rotate_left
               ·rintro w' ⟨s0, s1, s2, s3, s4⟩
                go_simp
                with_reducible rfl
               rotate_left
               ·simp only [Act.put, sit, scz, scs, i64_w, i32_w]
                rfl
               refine pure_ (i := 6) (N := some 45) (v := ?_) (a' := ?_) #[true, true, true, true, true, true, true, false, false, false] rfl rfl (any_of HT_.out (by kernel_rfl)) (fun _ _ _ h => h) (Or.inl ⟨by rfl, ?_⟩) ?_ ?_
               rotate_left
               ·intro w'
                go_simp
                with_reducible rfl
               rotate_left
               ·simp only [Act.put, sit, scz, scs, i64_w, i32_w]
                rfl
               refine take_ (i := 7) (N := some 46) (v := ?_) (a' := ?_) #[true, true, true, true, true, true, true, true, false, false] rfl rfl (take_ofW HT_.out HW_.out (by kernel_rfl)) (fun _ _ _ h => h) (Or.inl ⟨by rfl, ?_⟩) hHeld ?_ ?_
               rotate_left
               ·rintro w' ⟨s0, s1, s2, s3, s4⟩
                go_simp
                with_reducible rfl
               rotate_left
               ·simp only [Act.put, sit, scz, scs, i64_w, i32_w]
                rfl
               refine one_ (i := 8) (N := some 10) #[true, true, true, true, true, true, true, true, true, false] rfl rfl (one_of HT_.out (by kernel_rfl)) (by decide) (fun K hK => ?_)
               refine box_step ?hg (N := 10) ?hd (cs := #[.int .i64 0, .string (⟨#[]⟩ : ByteArray)]) (t := 55) ?hr ?_; (case hd => rfl); (case hg => rfl); (case hr => first | (go_simp; done) | (go_simp; rfl))
               intro gb187 hg w86 hbox hb
               have n0_ := am (krb (by (with_reducible repeat (first | apply kra | apply krn | apply krd)); exact HO_185000.out) hb)
               have n1_ := am (kbb (g := gb173) (o := .cells #[.slice A0_0 l0_0.length c0_0, .slice (some ad186) l0_1.length c0_1] 30 (0, 0)) (by (with_reducible repeat (first | apply kdn | apply kdr | apply kal)); exact BK173.out) hb)
               have n2_ := am (kbb (g := gb174) (o := .cells #[.slice none 0 0, .slice none 0 0] 30 (0, 0)) (by (with_reducible repeat (first | apply kdn | apply kdr | apply kal)); exact BK174.out) hb)
               have n3_ := am (kbb (g := gb184) (o := .cells #[u185000, .slice none 0 0] 30 (0, 0)) (by (with_reducible repeat (first | apply kdn | apply kdr | apply kal)); exact BK184.out) hb)
               have n4_ := am (below_step (by repeat (first | (with_reducible first | exact HB.out | apply bal | apply pdn | apply bd1 | refine bst ?_ GE173.out | refine bst ?_ GE174.out | refine bst ?_ GE184.out) | exact HB.out)) hb)
               have n5_ := am (hbox)
               have n6_ := am ((by rw [hg]; exact (below_size (by repeat (first | (with_reducible first | exact HB.out | apply bal | apply pdn | apply bd1 | refine bst ?_ GE173.out | refine bst ?_ GE174.out | refine bst ?_ GE184.out) | exact HB.out))) : w.heap.size ≤ gb187))
               have n7_ := am ((by rw [hg]; exact (below_size (by repeat (first | (with_reducible first | exact HB.out | apply bal | apply pdn | apply bd1 | refine bst ?_ GE173.out | refine bst ?_ GE174.out | refine bst ?_ GE184.out) | exact HB.out))) : w.heap.size ≤ gb187))
               have n8_ := am ((by rw [hg]; exact Nat.ne_of_lt (blk_lt (g := gb173) (o := .cells #[.slice A0_0 l0_0.length c0_0, .slice (some ad186) l0_1.length c0_1] 30 (0, 0)) (by (with_reducible repeat (first | apply kdn | apply kdr | apply kal)); exact BK173.out)) : gb173 ≠ gb187))
               have n9_ := am ((by rw [hg]; exact Nat.ne_of_gt (blk_lt (g := gb173) (o := .cells #[.slice A0_0 l0_0.length c0_0, .slice (some ad186) l0_1.length c0_1] 30 (0, 0)) (by (with_reducible repeat (first | apply kdn | apply kdr | apply kal)); exact BK173.out)) : gb187 ≠ gb173))
               have n10_ := am ((by rw [hg]; exact Nat.ne_of_lt (blk_lt (g := gb174) (o := .cells #[.slice none 0 0, .slice none 0 0] 30 (0, 0)) (by (with_reducible repeat (first | apply kdn | apply kdr | apply kal)); exact BK174.out)) : gb174 ≠ gb187))
               have n11_ := am ((by rw [hg]; exact Nat.ne_of_gt (blk_lt (g := gb174) (o := .cells #[.slice none 0 0, .slice none 0 0] 30 (0, 0)) (by (with_reducible repeat (first | apply kdn | apply kdr | apply kal)); exact BK174.out)) : gb187 ≠ gb174))
               have n12_ := am ((by rw [hg]; exact Nat.ne_of_lt (blk_lt (g := gb184) (o := .cells #[u185000, .slice none 0 0] 30 (0, 0)) (by (with_reducible repeat (first | apply kdn | apply kdr | apply kal)); exact BK184.out)) : gb184 ≠ gb187))
               have n13_ := am ((by rw [hg]; exact Nat.ne_of_gt (blk_lt (g := gb184) (o := .cells #[u185000, .slice none 0 0] 30 (0, 0)) (by (with_reducible repeat (first | apply kdn | apply kdr | apply kal)); exact BK184.out)) : gb187 ≠ gb184))
               clear HO_185000
               clear BK173
               clear BK174
               clear BK184
               clear HB
               have HO_185000 := n0_
               have BK173 := n1_
               have BK174 := n2_
               have BK184 := n3_
               have HB := n4_
               have BK187 := n5_
               have GW187 := n6_
               have GE187 := n7_
               have NB173_187 := n8_
               have NB187_173 := n9_
               have NB174_187 := n10_
               have NB187_174 := n11_
               have NB184_187 := n12_
               have NB187_184 := n13_
               clear n0_ n1_ n2_ n3_ n4_ n5_ n6_ n7_ n8_ n9_ n10_ n11_ n12_ n13_
               clear hb hbox hg
               refine hK.out _ _ ⟨(kce BK173.out 0).trans rfl, (kce BK173.out 1).trans rfl, ((HB.out.cell (blc w _ hw185_0)).trans hw185_0), ((HB.out.cell (blc w _ hw186_0)).trans hw186_0), ((HB.out.cell (blc w _ hw186_1)).trans hw186_1)⟩ (fun hHeld => ?_)
               clear hK K
               refine norm_ (a' := ?_) ?_ ?_
               rotate_left
               ·show Act.put _ (some 10) _ = _
                simp only [Act.put, sit, scz, scs, i64_w, i32_w]
                rfl
               refine one_ (i := 9) (N := none) #[true, true, true, true, true, true, true, true, true, true] rfl rfl (one_of HT_.out (by kernel_rfl)) (by decide) (fun K hK => ?_)
               have hs87 : w86.cell? ⟨gb187, 0, none⟩ = some (.int .i64 0) := (kce BK187.out 0).trans rfl
               have hfs87 := kfr BK187.out 0
               have hns87_0 := NB173_187.out
               have hns87_1 := NB174_187.out
               have hns87_2 := NB184_187.out
               have hms87_0 := NB187_173.out
               have hms87_1 := NB187_174.out
               have hms87_2 := NB187_184.out
               have hs88 : w86.cell? ⟨gb187, 1, none⟩ = some (.string (⟨#[]⟩ : ByteArray)) := (kce BK187.out 1).trans rfl
               have hfs88 := kfr BK187.out 1
               have hns88_0 := NB173_187.out
               have hns88_1 := NB174_187.out
               have hns88_2 := NB184_187.out
               have hms88_0 := NB187_173.out
               have hms88_1 := NB187_174.out
               have hms88_2 := NB187_184.out
               refine skip_ (w1 := ?_) (by rfl) rfl ?_ ?_
               rotate_left
               ·go_simp
                rfl
               refine hK.out _ _ ⟨((cell_far (p := ⟨gb187, _, none⟩) NB173_187.out _).trans (((cell_far (p := ⟨gb187, _, none⟩) NB173_187.out _).trans (hHeld.1)))), ((cell_far (p := ⟨gb187, _, none⟩) NB173_187.out _).trans (((cell_far (p := ⟨gb187, _, none⟩) NB173_187.out _).trans (hHeld.2.1)))), ((cell_far (p := ⟨gb187, _, none⟩) (by first | exact Nat.ne_of_lt (Nat.lt_of_lt_of_le (by have := blc _ _ hw185_0; first | rwa [add_block] at this | exact this) GW187.out) | (rw [add_block]; exact Nat.ne_of_lt (Nat.lt_of_lt_of_le (by have := blc _ _ hw185_0; first | rwa [add_block] at this | exact this) GW187.out)) | (show (Addr.add _ _).block ≠ _; rw [add_block]; exact Nat.ne_of_lt (Nat.lt_of_lt_of_le (by have := blc _ _ hw185_0; first | rwa [add_block] at this | exact this) GW187.out)) | (dsimp only; exact Nat.ne_of_lt (Nat.lt_of_lt_of_le (by have := blc _ _ hw185_0; first | rwa [add_block] at this | exact this) GW187.out))) _).trans (((cell_far (p := ⟨gb187, _, none⟩) (by first | exact Nat.ne_of_lt (Nat.lt_of_lt_of_le (by have := blc _ _ hw185_0; first | rwa [add_block] at this | exact this) GW187.out) | (rw [add_block]; exact Nat.ne_of_lt (Nat.lt_of_lt_of_le (by have := blc _ _ hw185_0; first | rwa [add_block] at this | exact this) GW187.out)) | (show (Addr.add _ _).block ≠ _; rw [add_block]; exact Nat.ne_of_lt (Nat.lt_of_lt_of_le (by have := blc _ _ hw185_0; first | rwa [add_block] at this | exact this) GW187.out)) | (dsimp only; exact Nat.ne_of_lt (Nat.lt_of_lt_of_le (by have := blc _ _ hw185_0; first | rwa [add_block] at this | exact this) GW187.out))) _).trans (hHeld.2.2.1)))), ((cell_far (p := ⟨gb187, _, none⟩) (by first | exact Nat.ne_of_lt (Nat.lt_of_lt_of_le (by have := blc _ _ hw186_0; first | rwa [add_block] at this | exact this) GW187.out) | (rw [add_block]; exact Nat.ne_of_lt (Nat.lt_of_lt_of_le (by have := blc _ _ hw186_0; first | rwa [add_block] at this | exact this) GW187.out)) | (show (Addr.add _ _).block ≠ _; rw [add_block]; exact Nat.ne_of_lt (Nat.lt_of_lt_of_le (by have := blc _ _ hw186_0; first | rwa [add_block] at this | exact this) GW187.out)) | (dsimp only; exact Nat.ne_of_lt (Nat.lt_of_lt_of_le (by have := blc _ _ hw186_0; first | rwa [add_block] at this | exact this) GW187.out))) _).trans (((cell_far (p := ⟨gb187, _, none⟩) (by first | exact Nat.ne_of_lt (Nat.lt_of_lt_of_le (by have := blc _ _ hw186_0; first | rwa [add_block] at this | exact this) GW187.out) | (rw [add_block]; exact Nat.ne_of_lt (Nat.lt_of_lt_of_le (by have := blc _ _ hw186_0; first | rwa [add_block] at this | exact this) GW187.out)) | (show (Addr.add _ _).block ≠ _; rw [add_block]; exact Nat.ne_of_lt (Nat.lt_of_lt_of_le (by have := blc _ _ hw186_0; first | rwa [add_block] at this | exact this) GW187.out)) | (dsimp only; exact Nat.ne_of_lt (Nat.lt_of_lt_of_le (by have := blc _ _ hw186_0; first | rwa [add_block] at this | exact this) GW187.out))) _).trans (hHeld.2.2.2.1)))), ((cell_far (p := ⟨gb187, _, none⟩) (by first | exact Nat.ne_of_lt (Nat.lt_of_lt_of_le (by have := blc _ _ hw186_1; first | rwa [add_block] at this | exact this) GW187.out) | (rw [add_block]; exact Nat.ne_of_lt (Nat.lt_of_lt_of_le (by have := blc _ _ hw186_1; first | rwa [add_block] at this | exact this) GW187.out)) | (show (Addr.add _ _).block ≠ _; rw [add_block]; exact Nat.ne_of_lt (Nat.lt_of_lt_of_le (by have := blc _ _ hw186_1; first | rwa [add_block] at this | exact this) GW187.out)) | (dsimp only; exact Nat.ne_of_lt (Nat.lt_of_lt_of_le (by have := blc _ _ hw186_1; first | rwa [add_block] at this | exact this) GW187.out))) _).trans (((cell_far (p := ⟨gb187, _, none⟩) (by first | exact Nat.ne_of_lt (Nat.lt_of_lt_of_le (by have := blc _ _ hw186_1; first | rwa [add_block] at this | exact this) GW187.out) | (rw [add_block]; exact Nat.ne_of_lt (Nat.lt_of_lt_of_le (by have := blc _ _ hw186_1; first | rwa [add_block] at this | exact this) GW187.out)) | (show (Addr.add _ _).block ≠ _; rw [add_block]; exact Nat.ne_of_lt (Nat.lt_of_lt_of_le (by have := blc _ _ hw186_1; first | rwa [add_block] at this | exact this) GW187.out)) | (dsimp only; exact Nat.ne_of_lt (Nat.lt_of_lt_of_le (by have := blc _ _ hw186_1; first | rwa [add_block] at this | exact this) GW187.out))) _).trans (hHeld.2.2.2.2))))⟩ (fun hHeld => ?_)
               clear hK K
               refine done_ (done_of HT_.out (by kernel_rfl)) ?_
               have n0_ : Aside0 (Kd.R Kd.string 9 ((w86.setCell ⟨gb187, 0, none⟩ (.int .i64 ((rd_T55 l0_1 (rd l1 x9_2)).f0))).setCell ⟨gb187, 1, none⟩ (.string ((rd_T55 l0_1 (rd l1 x9_2)).f1))) w.heap.size (fun _ => True) u185000 x185000_2) := ⟨by (with_reducible repeat (first | apply kra | apply krn | apply krd)); exact Kd.R_mono (kfa (p := ⟨gb187, 1, none⟩) (kfa (p := ⟨gb187, 0, none⟩) (Kd.R_types HO_185000.out BK187.out (by decide)) (fun _ hk => hk.2) (.int .i64 ((rd_T55 l0_1 (rd l1 x9_2)).f0))) (fun _ hk => hk.2) (.string ((rd_T55 l0_1 (rd l1 x9_2)).f1))) (fun _ hk => trivial)⟩
               have n1_ : Aside0 (((w86.setCell ⟨gb187, 0, none⟩ (.int .i64 ((rd_T55 l0_1 (rd l1 x9_2)).f0))).setCell ⟨gb187, 1, none⟩ (.string ((rd_T55 l0_1 (rd l1 x9_2)).f1))).heap[gb173]? = some (.cells #[.slice A0_0 l0_0.length c0_0, .slice (some ad186) l0_1.length c0_1] 30 (0, 0))) := ⟨by (with_reducible repeat (first | apply kdn | apply kdr | apply kal)); refine blk_far ?_ NB173_187.out _; (with_reducible repeat (first | apply kdn | apply kdr | apply kal)); refine blk_far ?_ NB173_187.out _; (with_reducible repeat (first | apply kdn | apply kdr | apply kal)); exact BK173.out⟩
               have n2_ : Aside0 (((w86.setCell ⟨gb187, 0, none⟩ (.int .i64 ((rd_T55 l0_1 (rd l1 x9_2)).f0))).setCell ⟨gb187, 1, none⟩ (.string ((rd_T55 l0_1 (rd l1 x9_2)).f1))).heap[gb174]? = some (.cells #[.slice none 0 0, .slice none 0 0] 30 (0, 0))) := ⟨by (with_reducible repeat (first | apply kdn | apply kdr | apply kal)); refine blk_far ?_ NB174_187.out _; (with_reducible repeat (first | apply kdn | apply kdr | apply kal)); refine blk_far ?_ NB174_187.out _; (with_reducible repeat (first | apply kdn | apply kdr | apply kal)); exact BK174.out⟩
               have n3_ : Aside0 (((w86.setCell ⟨gb187, 0, none⟩ (.int .i64 ((rd_T55 l0_1 (rd l1 x9_2)).f0))).setCell ⟨gb187, 1, none⟩ (.string ((rd_T55 l0_1 (rd l1 x9_2)).f1))).heap[gb184]? = some (.cells #[u185000, .slice none 0 0] 30 (0, 0))) := ⟨by (with_reducible repeat (first | apply kdn | apply kdr | apply kal)); refine blk_far ?_ NB184_187.out _; (with_reducible repeat (first | apply kdn | apply kdr | apply kal)); refine blk_far ?_ NB184_187.out _; (with_reducible repeat (first | apply kdn | apply kdr | apply kal)); exact BK184.out⟩
               have n4_ : Aside0 (((w86.setCell ⟨gb187, 0, none⟩ (.int .i64 ((rd_T55 l0_1 (rd l1 x9_2)).f0))).setCell ⟨gb187, 1, none⟩ (.string ((rd_T55 l0_1 (rd l1 x9_2)).f1))).heap[gb187]? = some (.cells #[.int .i64 ((rd_T55 l0_1 (rd l1 x9_2)).f0), .string ((rd_T55 l0_1 (rd l1 x9_2)).f1)] 55 (0, 0))) := ⟨by (with_reducible repeat (first | apply kdn | apply kdr | apply kal)); refine blk_put (cs := #[.int .i64 ((rd_T55 l0_1 (rd l1 x9_2)).f0), .string (⟨#[]⟩ : ByteArray)]) ?_ 1 _ rfl; (with_reducible repeat (first | apply kdn | apply kdr | apply kal)); refine blk_put (cs := #[.int .i64 0, .string (⟨#[]⟩ : ByteArray)]) ?_ 0 _ rfl; (with_reducible repeat (first | apply kdn | apply kdr | apply kal)); exact BK187.out⟩
               have n5_ : Aside0 (Below w.heap.size w ((w86.setCell ⟨gb187, 0, none⟩ (.int .i64 ((rd_T55 l0_1 (rd l1 x9_2)).f0))).setCell ⟨gb187, 1, none⟩ (.string ((rd_T55 l0_1 (rd l1 x9_2)).f1)))) := ⟨by repeat (first | (with_reducible first | exact HB.out | apply bal | apply pdn | apply bd1 | refine bst ?_ GE173.out | refine bst ?_ GE174.out | refine bst ?_ GE184.out | refine bst ?_ GE187.out) | exact HB.out)⟩
               (try clear HO_185000)
               (try clear BK173)
               (try clear BK174)
               (try clear BK184)
               (try clear BK187)
               (try clear HB)
               generalize ((w86.setCell ⟨gb187, 0, none⟩ (.int .i64 ((rd_T55 l0_1 (rd l1 x9_2)).f0))).setCell ⟨gb187, 1, none⟩ (.string ((rd_T55 l0_1 (rd l1 x9_2)).f1))) = w89 at n0_ n1_ n2_ n3_ n4_ n5_ ⊢
               have HO_185000 := n0_
               have BK173 := n1_
               have BK174 := n2_
               have BK184 := n3_
               have BK187 := n4_
               have HB := n5_
               clear n0_ n1_ n2_ n3_ n4_ n5_
               have hnb90 := NB184_173.out
               have hnc90 := NB173_184.out
               have hnb91 := NB184_174.out
               have hnc91 := NB174_184.out
               have hnb92 := NB184_187.out
               have hnc92 := NB187_184.out
               have hcz93_0 : w89.cell? ⟨gb184, 0, none⟩ = some (u185000) := (kce BK184.out 0).trans rfl
               have hcz93_1 : w89.cell? ⟨gb184, 1, none⟩ = some (.slice none 0 0) := (kce BK184.out 1).trans rfl
               have hfz93_0 := kfr BK184.out 0
               have hfz93_1 := kfr BK184.out 1
               have hnb94 := NB187_173.out
               have hnc94 := NB173_187.out
               have hnb95 := NB187_174.out
               have hnc95 := NB174_187.out
               have hcz96_0 : w89.cell? ⟨gb187, 0, none⟩ = some (.int .i64 ((rd_T55 l0_1 (rd l1 x9_2)).f0)) := (kce BK187.out 0).trans rfl
               have hcz96_1 : w89.cell? ⟨gb187, 1, none⟩ = some (.string ((rd_T55 l0_1 (rd l1 x9_2)).f1)) := (kce BK187.out 1).trans rfl
               have hfz96_0 := kfr BK187.out 0
               have hfz96_1 := kfr BK187.out 1
               have p84 : 0 ≤ (((rd_T55 l0_1 (rd l1 x9_2)).f0) : Int) := of_decide_eq_true (by first | (with_reducible assumption) | assumption)
               have q84 : (((rd_T55 l0_1 (rd l1 x9_2)).f0) : Int) < ((x185000_2.length : Int) : Int) := of_decide_eq_true (by first | (with_reducible assumption) | assumption)
               obtain ⟨go84, co84, eo84, gb84, gl84, cl84, HG84⟩ := Kd.R_form HO_185000.out (by omega)
               (first | cases eo84 | (injection eo84 with ea_ en_ ec_; (first | subst ea_ | (injection ea_ with ea_; subst ea_)); subst ec_; clear en_))
               have GB84 := am gb84
               have GG84 := am HG84
               clear gb84 gl84 HG84
               obtain ⟨hx84_0, hf84_0⟩ := Kd.R_celln (⟨#[]⟩ : ByteArray) HO_185000.out (((rd_T55 l0_1 (rd l1 x9_2)).f0) : Int) p84 q84
               replace p84 := eq_true p84
               replace q84 := eq_true q84
               obtain ⟨hy97_, hz97_⟩ := Kd.R_celln (⟨#[]⟩ : ByteArray) HO_185000.out (((rd_T55 l0_1 (rd l1 x9_2)).f0) : Int) (of_decide_eq_true (by first | (with_reducible assumption) | assumption)) (of_decide_eq_true (by first | (with_reducible assumption) | assumption))
               have HP97 := Kd.R_putg HO_185000.out (((rd_T55 l0_1 (rd l1 x9_2)).f0) : Int) ((rd_T55 l0_1 (rd l1 x9_2)).f1)
               try go_wp2_with (first | ((with_reducible refine gate_store (t := 9) (p := 76) rfl ?_); refine store_event (t := 9) (p := 76) (v := ?vo_w98) (w1 := (w89.setCell ⟨go84, (((rd_T55 l0_1 (rd l1 x9_2)).f0) : Int).toNat, none⟩ (.string ((rd_T55 l0_1 (rd l1 x9_2)).f1)))) ?hg ?ho ?hn ?hr ?_; (case ho => rfl); (case hg => rfl); (case hn => rfl); (case hr => first | (go_simp; done) | (go_simp; rfl)); intro w98 hw; have hg : w89.grownBy w98 (some go84) := (by rw [hw]; exact HP97.2); have hp_ : Kd.R Kd.string 9 w98 w.heap.size (fun _ => True) (.slice (some ⟨go84, 0, none⟩) x185000_2.length co84) y191 := (by rw [hw, Ny191.out]; exact HP97.1); clear HP97; have n0_ := am (hp_); have n1_ := am (blk_grown (g := gb173) (o := .cells #[.slice A0_0 l0_0.length c0_0, .slice (some ad186) l0_1.length c0_1] 30 (0, 0)) (by (with_reducible repeat (first | apply kdn | apply kdr | apply kal)); exact BK173.out) hg (Kd.R_ne HO_185000.out BK173.out (by decide))); have n2_ := am (blk_grown (g := gb174) (o := .cells #[.slice none 0 0, .slice none 0 0] 30 (0, 0)) (by (with_reducible repeat (first | apply kdn | apply kdr | apply kal)); exact BK174.out) hg (Kd.R_ne HO_185000.out BK174.out (by decide))); have n3_ := am (blk_grown (g := gb184) (o := .cells #[.slice (some ⟨go84, 0, none⟩) x185000_2.length co84, .slice none 0 0] 30 (0, 0)) (by (with_reducible repeat (first | apply kdn | apply kdr | apply kal)); exact BK184.out) hg (Kd.R_ne HO_185000.out BK184.out (by decide))); have n4_ := am (blk_grown (g := gb187) (o := .cells #[.int .i64 ((rd_T55 l0_1 (rd l1 x9_2)).f0), .string ((rd_T55 l0_1 (rd l1 x9_2)).f1)] 55 (0, 0)) (by (with_reducible repeat (first | apply kdn | apply kdr | apply kal)); exact BK187.out) hg (Kd.R_ne HO_185000.out BK187.out (by decide))); have n5_ := am ((by rw [hw]; exact bst (HB.out) GB84.out : Below w.heap.size w w98)); clear HO_185000; clear BK173; clear BK174; clear BK184; clear BK187; clear HB; have HO_185000 := n0_; have BK173 := n1_; have BK174 := n2_; have BK184 := n3_; have BK187 := n4_; have HB := n5_; clear n0_ n1_ n2_ n3_ n4_ n5_; clear hg hw hp_))
               go_roundg k2
               case measure => have := HJ5.out; have := HK2.out; omega
               case rel => exact ⟨(wrap64 (x9_2 + 1)), (y191), (.slice (some ⟨go84, 0, none⟩) x185000_2.length co84), (by first | rfl | (simp; done) | (simp [*]; done)), H', ⟨by have := HJ5.out; have := HK2.out; omega⟩, ⟨by (with_reducible repeat (first | apply kra | apply krn | apply krd)); exact HO_185000.out⟩, ⟨by (with_reducible repeat (first | apply kdn | apply kdr | apply kal)); exact BK173.out⟩, ⟨by (with_reducible repeat (first | apply kdn | apply kdr | apply kal)); exact BK174.out⟩, ⟨by (with_reducible repeat (first | apply kdn | apply kdr | apply kal)); exact BK184.out⟩, ⟨by repeat (first | (with_reducible first | exact HB.out | apply bal | apply pdn | apply bd1 | refine bst ?_ GE173.out | refine bst ?_ GE174.out | refine bst ?_ GE184.out | refine bst ?_ GE187.out) | exact HB.out)⟩⟩
              ·rw [if_neg c83] at H
               exact absurd H (by simp)
             ·rw [if_neg c82] at H
              exact absurd H (by simp)
           ·rw [if_neg c36] at H
            exact absurd H (by simp)
          ·rw [if_neg c35] at H
           exact absurd H (by simp)
         ·rw [if_neg c34] at H
          exact absurd H (by simp)
        ·rw [if_neg c33] at H
         have c33b0 : decide (x9_2 < (l1.length : Int)) = false := decide_eq_false c33
         clear c33
         simp only [Option.some.injEq, Prod.mk.injEq] at H
         obtain ⟨rfl, rfl, rfl⟩ := H
         have hnb99 := NB184_173.out
         have hnc99 := NB173_184.out
         have hnb100 := NB184_174.out
         have hnc100 := NB174_184.out
         have hcz101_0 : wr.cell? ⟨gb184, 0, none⟩ = some (u185000) := (kce BK184.out 0).trans rfl
         have hcz101_1 : wr.cell? ⟨gb184, 1, none⟩ = some (.slice none 0 0) := (kce BK184.out 1).trans rfl
         have hfz101_0 := kfr BK184.out 0
         have hfz101_1 := kfr BK184.out 1
         obtain ⟨Ao102, co102, eo102⟩ := Kd.R_slice HO_185000.out
         subst eo102
         have hnb103 := NB174_173.out
         have hnc103 := NB173_174.out
         have hcz104_0 : wr.cell? ⟨gb174, 0, none⟩ = some (.slice none 0 0) := (kce BK174.out 0).trans rfl
         have hcz104_1 : wr.cell? ⟨gb174, 1, none⟩ = some (.slice none 0 0) := (kce BK174.out 1).trans rfl
         have hfz104_0 := kfr BK174.out 0
         have hfz104_1 := kfr BK174.out 1
         go_wp2
         refine bodyPost_ret (results_ct rfl _ _ gb174 30 #[.slice Ao102 x185000_2.length co102, .slice none 0 0] (0, 0) _ rfl (by (with_reducible repeat (first | apply kdn | apply kdr | apply kal)); refine blk_put (cs := #[.slice Ao102 x185000_2.length co102, .slice none 0 0]) ?_ 1 _ rfl; (with_reducible repeat (first | apply kdn | apply kdr | apply kal)); refine blk_put (cs := #[.slice none 0 0, .slice none 0 0]) ?_ 0 _ rfl; (with_reducible repeat (first | apply kdn | apply kdr | apply kal)); exact BK174.out) Try.underlying30 rfl (by kernel_rfl)) rfl ?_
         exact ⟨_, _, by first | rfl | (simp [errW_none, errW_some] <;> rfl) | (simp [*, errW_none, errW_some] <;> rfl), by (with_reducible repeat (first | apply kra | apply krn | apply krd)); exact Kd.R_mono (kfa (p := ⟨gb174, 1, none⟩) (kfa (p := ⟨gb174, 0, none⟩) (Kd.R_types HO_185000.out BK174.out (by decide)) (fun _ hk => hk.2) (.slice Ao102 x185000_2.length co102)) (fun _ hk => hk.2) (.slice none 0 0)) (fun _ hk => trivial), by first | exact Kd.R_nil _ _ _ _ _ | exact Kd.N_nil _ _ _ _ _ | exact Kd.V_nil _ _ _ _ _ | exact Kd.Q_nil _ _ _ _ _ | exact Kd.S_nil _ _ _ _ _, by repeat (first | (with_reducible first | exact HB.out | apply bal | apply pdn | apply bd1 | refine bst ?_ GE173.out | refine bst ?_ GE174.out | refine bst ?_ GE184.out) | exact HB.out)⟩
     ·rw [if_neg c22] at H
      exact absurd H (by simp)
 ·replace c5 := Bool.eq_false_iff.mpr c5
  subst c5
  have H1 : (some (([] : List ByteArray), ([] : List (S55)), 1)) = some (r1, r2, r3) := by rw [if_neg (show ¬ (false = true) by decide)] at H; exact H
  clear H
  have H := H1
  clear H1
  simp only [Option.some.injEq, Prod.mk.injEq] at H
  obtain ⟨rfl, rfl, rfl⟩ := H
  go_enter Try.func28, Try.ntmps28
  go_wp2_with (first | ((with_reducible refine gate_dst (N := 3) rfl ?_); refine box_event ?hg (N := 3) ?hd (cs := #[.slice A0_0 l0_0.length c0_0, .slice A0_1 l0_1.length c0_1]) (t := 30) ?hr ?_; (case hd => rfl); (case hg => rfl); (case hr => first | (go_simp; done) | (go_simp; rfl)); intro gb173 hg w105 hbox hb; have n0_ := am (below_step (by repeat (first | (with_reducible first | exact HB.out | apply bal | apply pdn | apply bd1) | exact HB.out)) hb); have n1_ := am (hbox); have n2_ := am ((by rw [hg]; exact (below_size (by repeat (first | (with_reducible first | exact HB.out | apply bal | apply pdn | apply bd1) | exact HB.out))) : w.heap.size ≤ gb173)); have n3_ := am ((by rw [hg]; exact (below_size (by repeat (first | (with_reducible first | exact HB.out | apply bal | apply pdn | apply bd1) | exact HB.out))) : w.heap.size ≤ gb173)); clear HB; have HB := n0_; have BK173 := n1_; have GW173 := n2_; have GE173 := n3_; clear n0_ n1_ n2_ n3_; clear hb hbox hg) | ((with_reducible refine gate_dst (N := 6) rfl ?_); refine box_event ?hg (N := 6) ?hd (cs := #[.slice none 0 0, .slice none 0 0]) (t := 30) ?hr ?_; (case hd => rfl); (case hg => rfl); (case hr => first | (go_simp; done) | (go_simp; rfl)); intro gb174 hg w106 hbox hb; have n0_ := am (kbb (g := gb173) (o := .cells #[.slice A0_0 l0_0.length c0_0, .slice A0_1 l0_1.length c0_1] 30 (0, 0)) (by (with_reducible repeat (first | apply kdn | apply kdr | apply kal)); exact BK173.out) hb); have n1_ := am (below_step (by repeat (first | (with_reducible first | exact HB.out | apply bal | apply pdn | apply bd1 | refine bst ?_ GE173.out) | exact HB.out)) hb); have n2_ := am (hbox); have n3_ := am ((by rw [hg]; exact (below_size (by repeat (first | (with_reducible first | exact HB.out | apply bal | apply pdn | apply bd1 | refine bst ?_ GE173.out) | exact HB.out))) : w.heap.size ≤ gb174)); have n4_ := am ((by rw [hg]; exact (below_size (by repeat (first | (with_reducible first | exact HB.out | apply bal | apply pdn | apply bd1 | refine bst ?_ GE173.out) | exact HB.out))) : w.heap.size ≤ gb174)); have n5_ := am ((by rw [hg]; exact Nat.ne_of_lt (blk_lt (g := gb173) (o := .cells #[.slice A0_0 l0_0.length c0_0, .slice A0_1 l0_1.length c0_1] 30 (0, 0)) (by (with_reducible repeat (first | apply kdn | apply kdr | apply kal)); exact BK173.out)) : gb173 ≠ gb174)); have n6_ := am ((by rw [hg]; exact Nat.ne_of_gt (blk_lt (g := gb173) (o := .cells #[.slice A0_0 l0_0.length c0_0, .slice A0_1 l0_1.length c0_1] 30 (0, 0)) (by (with_reducible repeat (first | apply kdn | apply kdr | apply kal)); exact BK173.out)) : gb174 ≠ gb173)); clear BK173; clear HB; have BK173 := n0_; have HB := n1_; have BK174 := n2_; have GW174 := n3_; have GE174 := n4_; have NB173_174 := n5_; have NB174_173 := n6_; clear n0_ n1_ n2_ n3_ n4_ n5_ n6_; clear hb hbox hg; have hnb107 := NB173_174.out; have hnc107 := NB174_173.out; have hcz108_0 : w106.cell? ⟨gb173, 0, none⟩ = some (.slice A0_0 l0_0.length c0_0) := (kce BK173.out 0).trans rfl; have hcz108_1 : w106.cell? ⟨gb173, 1, none⟩ = some (.slice A0_1 l0_1.length c0_1) := (kce BK173.out 1).trans rfl; have hfz108_0 := kfr BK173.out 0; have hfz108_1 := kfr BK173.out 1) | ((with_reducible refine gate_callee (f := 16) rfl ?_); refine goesL_ (some 12) rfl rfl Try.func16 (by kernel_rfl) rfl #[.agg #[.slice A0_0 l0_0.length c0_0, .slice A0_1 l0_1.length c0_1]] rfl (by (try simp only [mta, mco, mni]); first | done | rfl | (simp only [lnd, lnt]; rfl)) ?_; (with_reducible refine (spec_DiskOk.calls k _ _ l0_0 _ _ l0_1 false _ ?side1 ?side2 ?side3 ?side4 A4.out).mono ?_); (case side1 => repeat (first | exact (Kd.C_below HR0_0.out HB.out) | (with_reducible first | apply kca | apply kcn | apply kcd))); (case side2 => exact HC0_0.out); (case side3 => repeat (first | exact (Kd.C_below HR0_1.out HB.out) | (with_reducible first | apply kca | apply kcn | apply kcd))); (case side4 => exact HC0_1.out); rintro e w109 ⟨rfl, hb⟩; refine ⟨_, rfl, ?_⟩; have n0_ := am (kbb (g := gb173) (o := .cells #[.slice A0_0 l0_0.length c0_0, .slice A0_1 l0_1.length c0_1] 30 (0, 0)) (by (with_reducible repeat (first | apply kdn | apply kdr | apply kal)); exact BK173.out) hb); have n1_ := am (kbb (g := gb174) (o := .cells #[.slice none 0 0, .slice none 0 0] 30 (0, 0)) (by (with_reducible repeat (first | apply kdn | apply kdr | apply kal)); exact BK174.out) hb); have n2_ := am (below_step (by repeat (first | (with_reducible first | exact HB.out | apply bal | apply pdn | apply bd1 | refine bst ?_ GE173.out | refine bst ?_ GE174.out) | exact HB.out)) hb); clear BK173; clear BK174; clear HB; have BK173 := n0_; have BK174 := n1_; have HB := n2_; clear n0_ n1_ n2_; (try clear hb); (try clear hb2); (try clear hk); (try clear hi); have hcz110_0 : w109.cell? ⟨gb174, 0, none⟩ = some (.slice none 0 0) := (kce BK174.out 0).trans rfl; have hcz110_1 : w109.cell? ⟨gb174, 1, none⟩ = some (.slice none 0 0) := (kce BK174.out 1).trans rfl; have hfz110_0 := kfr BK174.out 0; have hfz110_1 := kfr BK174.out 1))
  refine bodyPost_ret (results_ct rfl _ _ gb174 30 #[.slice none 0 0, .slice none 0 0] (0, 0) _ rfl (by (with_reducible repeat (first | apply kdn | apply kdr | apply kal)); refine blk_put (cs := #[.slice none 0 0, .slice none 0 0]) ?_ 1 _ rfl; (with_reducible repeat (first | apply kdn | apply kdr | apply kal)); refine blk_put (cs := #[.slice none 0 0, .slice none 0 0]) ?_ 0 _ rfl; (with_reducible repeat (first | apply kdn | apply kdr | apply kal)); exact BK174.out) Try.underlying30 rfl (by kernel_rfl)) rfl ?_
  exact ⟨_, _, by first | rfl | (simp [errW_none, errW_some] <;> rfl) | (simp [*, errW_none, errW_some] <;> rfl), by first | exact Kd.R_nil _ _ _ _ _ | exact Kd.N_nil _ _ _ _ _ | exact Kd.V_nil _ _ _ _ _ | exact Kd.Q_nil _ _ _ _ _ | exact Kd.S_nil _ _ _ _ _, by first | exact Kd.R_nil _ _ _ _ _ | exact Kd.N_nil _ _ _ _ _ | exact Kd.V_nil _ _ _ _ _ | exact Kd.Q_nil _ _ _ _ _ | exact Kd.S_nil _ _ _ _ _, by repeat (first | (with_reducible first | exact HB.out | apply bal | apply pdn | apply bd1 | refine bst ?_ GE173.out | refine bst ?_ GE174.out) | exact HB.out)⟩

end Go.Proofs.Ythphhklbliambaa.MFnExactPowerLoss
