-- Written by a program of this session (wip/tools/myprint.py) over the kit's print: it is not the kit's print.
import Derived.Test.YthphhklbliambaaExtra
import Derived.Test.YthphhklbliambaaMFnExactReadSectorx0
import Derived.Test.YthphhklbliambaaMFnExactReadSectorx1
namespace Go.Proofs.Ythphhklbliambaa.MFnExactReadSector
open Go.RowKit Go.Proofs.YthphhklbliambaaW.PrintWords Go.Proofs.YthphhklbliambaaW.PrintLast Go.Proofs.YthphhklbliambaaW.PrintMore
open List renaming setIfInBounds_toArray → sit, set_cons_zero → scz, set_cons_succ → scs, map_toArray → mta, map_cons → mco, map_nil → mni, length_drop → lnd, length_take → lnt
open World renaming block_lt_of_cell? → blc
attribute [local go_sem] max2_int min2_int max_two min_two max_three min_three max_four min_four   -- for this text's walks alone
set_option linter.unusedVariables false
set_option linter.unusedSimpArgs false

/-! ### laws_eqPendingS: function 66 -/
def laws_eqPendingS.l0 : Nat → List (S55) → List (S55) → Int → Option (Bool)
 | 0, _, _, _ => none
 | k + 1, x0, x1, x5 => if x5 < (x0.length : Int) then (if 0 ≤ x5 then (if x5 < (x1.length : Int) then ((laws_eqPending.f ((rd_T55 x0 x5).f0) ((rd_T55 x0 x5).f1) ((rd_T55 x1 x5).f0) ((rd_T55 x1 x5).f1)).bind fun t138 => (if t138 = true then (laws_eqPendingS.l0 k x0 x1 (wrap64 (x5 + 1))) else (some false))) else (none)) else (none)) else (some true)
def laws_eqPendingS.f (k : Nat) (l0 : List (S55)) (l1 : List (S55)) : Option (Bool) := if (l0.length : Int) = (l1.length : Int) then (laws_eqPendingS.l0 k l0 l1 0) else (some false)
theorem laws_eqPendingS.mono_l : ∀ k, (∀ y0 y1 y2, LeO (laws_eqPendingS.l0 k y0 y1 y2) (laws_eqPendingS.l0 (k + 1) y0 y1 y2))
 | 0 => fun _ _ _ r h => by simp [laws_eqPendingS.l0] at h
 | k + 1 => by
  have ih0 := laws_eqPendingS.mono_l k
  ·intro y0 y1 y2
   unfold laws_eqPendingS.l0
   repeat' first
   | (with_reducible exact ih0 _ _ _)
   | (with_reducible exact LeO.refl _)
   | (with_reducible exact LeO.none _)
   | (with_reducible refine LeO.ite ?_ ?_)
   | (with_reducible refine LeO.bind ?_ (fun _ => ?_))
   | exact ih0 _ _ _
   | exact LeO.none _
   | refine LeO.ite ?_ ?_
   | refine LeO.bind ?_ (fun _ => ?_)
theorem laws_eqPendingS.mono : ∀ a0 a1 k, LeO (laws_eqPendingS.f k a0 a1) (laws_eqPendingS.f (k + 1) a0 a1) := by
 intro a0 a1 k
 have ih0 := laws_eqPendingS.mono_l k
 unfold laws_eqPendingS.f
 repeat' first
   | (with_reducible exact ih0 _ _ _)
   | (with_reducible exact LeO.refl _)
   | (with_reducible exact LeO.none _)
   | (with_reducible refine LeO.ite ?_ ?_)
   | (with_reducible refine LeO.bind ?_ (fun _ => ?_))
   | exact ih0 _ _ _
   | exact LeO.none _
   | refine LeO.ite ?_ ?_
   | refine LeO.bind ?_ (fun _ => ?_)
def laws_eqPendingS.T6 : Bool × List (List Nat × List Nat) := (true, [([], []), ([], []), ([0, 1], [0, 1]), ([2], [2]), ([], []), ([], []), ([4, 5], [4, 5]), ([6], [6]), ([3, 7], [3, 7]), ([8], [8])])
def laws_eqPendingS.B6 : List Nat := [0, 0, 3, 7, 0, 0, 48, 112, 255, 511]
theorem laws_eqPendingS.tab6 : rtab .any (opsOf Try.f66 6) = laws_eqPendingS.T6 := by kernel_rfl
theorem laws_eqPendingS.bits6 : waitsOk laws_eqPendingS.T6.2 laws_eqPendingS.B6 = true := by kernel_rfl
set_option maxHeartbeats 8000000 in
set_option maxRecDepth 100000 in
theorem laws_eqPendingS.calls (k : Nat) (A0 : Option Addr) (c0 : Nat) (l0 : List (S55)) (A1 : Option Addr) (c1 : Nat) (l1 : List (S55)) (r : Bool) (w : World) (hr0 : Kd.C k55 w A0 l0.length l0) (hc0 : l0.length ≤ c0) (hr1 : Kd.C k55 w A1 l1.length l1) (hc1 : l1.length ≤ c1) (h : laws_eqPendingS.f k l0 l1 = some r) :
  Calls Try.prog 66 #[.slice A0 l0.length c0, .slice A1 l1.length c1] w fun e w' => e = .returned (.bool r) ∧ Below w.heap.size w w' := by
 have hu55 := Try.underlying55
 have HR0 := am hr0
 have HC0 := am hc0
 clear hr0 hc0
 have HR1 := am hr1
 have HC1 := am hc1
 clear hr1 hc1
 have HB := am (Below.refl w.heap.size w)
 have H : (if (l0.length : Int) = (l1.length : Int) then (laws_eqPendingS.l0 k l0 l1 0) else (some false)) = some r := h
 clear h
 by_cases c3 : (l0.length : Int) = (l1.length : Int)
 ·rw [if_pos c3] at H
  have c3b0 : ((l0.length : Int) == (l1.length : Int)) = true := beq_iff_eq.mpr c3
  have c3b1 : ((l0.length : Int) != (l1.length : Int)) = false := bne_eq_false_iff_eq.mpr c3
  have c3b2 : (l0.length == l1.length) = true := by first | simpa using c3 | (simp at c3 ⊢; omega)
  clear c3
  have H' := am H
  clear H
  go_enter Try.func66, Try.ntmps66
  go_wp2
  go_loopg [5] k (fun kq v5 w' => ∃ (x5_1 : Int), v5 = .int .i64 x5_1 ∧ Aside0 (laws_eqPendingS.l0 kq l0 l1 x5_1 = some r) ∧ Aside0 (kq ≤ k) ∧ Aside0 (Below w.heap.size w w'))
  case atStart => exact ⟨(0), (by first | rfl | (simp; done) | (simp [*]; done)), H', ⟨Nat.le_refl _⟩, ⟨by repeat (first | (with_reducible first | exact HB.out | apply bal | apply pdn | apply bd1) | exact HB.out)⟩⟩
  case round =>
   clear H'
   obtain ⟨x5_1, rfl, HA, HK1, HB⟩ := hrel
   cases gk with
   | zero => exact absurd HA.out (by simp [laws_eqPendingS.l0])
   | succ k1 =>
    have H := HA.out
    clear HA
    simp only [laws_eqPendingS.l0] at H
    by_cases c4 : x5_1 < (l0.length : Int)
    ·rw [if_pos c4] at H
     have c4b0 : decide (x5_1 < (l0.length : Int)) = true := decide_eq_true c4
     clear c4
     by_cases c5 : 0 ≤ x5_1
     ·rw [if_pos c5] at H
      have c5b0 : decide (0 ≤ x5_1) = true := decide_eq_true c5
      clear c5
      by_cases c6 : x5_1 < (l1.length : Int)
      ·rw [if_pos c6] at H
       have c6b0 : decide (x5_1 < (l1.length : Int)) = true := decide_eq_true c6
       clear c6
       replace H := Option.bind_eq_some_iff.mp H
       obtain ⟨t138, A70, H⟩ := H
       replace H : (if t138 = true then (laws_eqPendingS.l0 k1 l0 l1 (wrap64 (x5_1 + 1))) else (some false)) = some r := H
       have A7 := am A70
       clear A70
       by_cases c8 : t138 = true
       ·subst c8
        have H1 : (laws_eqPendingS.l0 k1 l0 l1 (wrap64 (x5_1 + 1))) = some r := by rw [if_pos rfl] at H; exact H
        clear H
        have H := H1
        clear H1
        have H' := am H
        clear H
        try go_wp2
        have n0_ := am (bd1 HB.out)
        clear HB
        have HB := n0_
        clear n0_
        have p136 : 0 ≤ (x5_1 : Int) := of_decide_eq_true (by first | (with_reducible assumption) | assumption)
        have q136 : x5_1 < (l0.length : Int) := of_decide_eq_true (by first | (with_reducible assumption) | assumption)
        obtain ⟨ad136, e136, hx136_0, hx136_1⟩ := at_T55 HR0.out x5_1 p136 q136
        have hw136_1 := hx136_1
        have hw136_0 := hx136_0
        cases e136
        replace hx136_0 := (HB.out.cell (blc w _ hx136_0)).trans hx136_0
        replace hx136_1 := (HB.out.cell (blc w _ hx136_1)).trans hx136_1
        replace p136 := eq_true p136
        replace q136 := eq_true q136
        have p137 : 0 ≤ (x5_1 : Int) := of_decide_eq_true (by first | (with_reducible assumption) | assumption)
        have q137 : x5_1 < (l1.length : Int) := of_decide_eq_true (by first | (with_reducible assumption) | assumption)
        obtain ⟨ad137, e137, hx137_0, hx137_1⟩ := at_T55 HR1.out x5_1 p137 q137
        have hw137_1 := hx137_1
        have hw137_0 := hx137_0
        cases e137
        replace hx137_0 := (HB.out.cell (blc w _ hx137_0)).trans hx137_0
        replace hx137_1 := (HB.out.cell (blc w _ hx137_1)).trans hx137_1
        replace p137 := eq_true p137
        replace q137 := eq_true q137
        refine start_ (n := 10) (S := fun w' => w'.cell? (ad136.add ((x5_1).toNat * 2)) = some (.int .i64 ((rd_T55 l0 x5_1).f0)) ∧ w'.cell? ⟨(ad136.add ((x5_1).toNat * 2)).block, (ad136.add ((x5_1).toNat * 2)).off + 1, none⟩ = some (.string ((rd_T55 l0 x5_1).f1)) ∧ w'.cell? (ad137.add ((x5_1).toNat * 2)) = some (.int .i64 ((rd_T55 l1 x5_1).f0)) ∧ w'.cell? ⟨(ad137.add ((x5_1).toNat * 2)).block, (ad137.add ((x5_1).toNat * 2)).off + 1, none⟩ = some (.string ((rd_T55 l1 x5_1).f1))) (ds := []) #[false, false, false, false, false, false, false, false, false, false] (by kernel_rfl) rfl rfl ⟨((HB.out.cell (blc w _ hw136_0)).trans hw136_0), ((HB.out.cell (blc w _ hw136_1)).trans hw136_1), ((HB.out.cell (blc w _ hw137_0)).trans hw137_0), ((HB.out.cell (blc w _ hw137_1)).trans hw137_1)⟩ (fun hHeld => ?_); refine with_tabW laws_eqPendingS.tab6 laws_eqPendingS.bits6 (fun HT_ HW_ => ?_)
        generalize wr.drew = w9 at HB hx136_0 hx136_1 hx137_0 hx137_1 hHeld ⊢
        refine pure_ (i := 0) (N := some 17) (v := ?_) (a' := ?_) #[true, false, false, false, false, false, false, false, false, false] rfl rfl (any_of HT_.out (by kernel_rfl)) (fun _ _ _ h => h) (Or.inl ⟨by rfl, ?_⟩) ?_ ?_
        rotate_left
        ·intro w'
         go_simp
         with_reducible rfl
        rotate_left
        ·simp only [Act.put, sit, scz, scs, i64_w, i32_w]
         rfl
        refine pure_ (i := 1) (N := some 18) (v := ?_) (a' := ?_) #[true, true, false, false, false, false, false, false, false, false] rfl rfl (any_of HT_.out (by kernel_rfl)) (fun _ _ _ h => h) (Or.inl ⟨by rfl, ?_⟩) ?_ ?_
        rotate_left
        ·intro w'
         go_simp
         with_reducible rfl
        rotate_left
        ·simp only [Act.put, sit, scz, scs, i64_w, i32_w]
         rfl
        refine pure_ (i := 2) (N := some 19) (v := ?_) (a' := ?_) #[true, true, true, false, false, false, false, false, false, false] rfl rfl (any_of HT_.out (by kernel_rfl)) (fun _ _ _ h => h) (Or.inl ⟨by rfl, ?_⟩) ?_ ?_
        rotate_left
        ·intro w'
         go_simp
         with_reducible rfl
        rotate_left
        ·simp only [Act.put, sit, scz, scs, i64_w, i32_w]
         rfl
        refine pure_ (i := 4) (N := some 21) (v := ?_) (a' := ?_) #[true, true, true, false, true, false, false, false, false, false] rfl rfl (any_of HT_.out (by kernel_rfl)) (fun _ _ _ h => h) (Or.inl ⟨by rfl, ?_⟩) ?_ ?_
        rotate_left
        ·intro w'
         go_simp
         with_reducible rfl
        rotate_left
        ·simp only [Act.put, sit, scz, scs, i64_w, i32_w]
         rfl
        refine pure_ (i := 5) (N := some 22) (v := ?_) (a' := ?_) #[true, true, true, false, true, true, false, false, false, false] rfl rfl (any_of HT_.out (by kernel_rfl)) (fun _ _ _ h => h) (Or.inl ⟨by rfl, ?_⟩) ?_ ?_
        rotate_left
        ·intro w'
         go_simp
         with_reducible rfl
        rotate_left
        ·simp only [Act.put, sit, scz, scs, i64_w, i32_w]
         rfl
        refine pure_ (i := 6) (N := some 23) (v := ?_) (a' := ?_) #[true, true, true, false, true, true, true, false, false, false] rfl rfl (any_of HT_.out (by kernel_rfl)) (fun _ _ _ h => h) (Or.inl ⟨by rfl, ?_⟩) ?_ ?_
        rotate_left
        ·intro w'
         go_simp
         with_reducible rfl
        rotate_left
        ·simp only [Act.put, sit, scz, scs, i64_w, i32_w]
         rfl
        refine take_ (i := 3) (N := some 20) (v := ?_) (a' := ?_) #[true, true, true, true, true, true, true, false, false, false] rfl rfl (take_ofW HT_.out HW_.out (by kernel_rfl)) (fun _ _ _ h => h) (Or.inl ⟨by rfl, ?_⟩) hHeld ?_ ?_
        rotate_left
        ·rintro w' ⟨s0, s1, s2, s3⟩
         go_simp
         with_reducible rfl
        rotate_left
        ·simp only [Act.put, sit, scz, scs, i64_w, i32_w]
         rfl
        refine take_ (i := 7) (N := some 24) (v := ?_) (a' := ?_) #[true, true, true, true, true, true, true, true, false, false] rfl rfl (take_ofW HT_.out HW_.out (by kernel_rfl)) (fun _ _ _ h => h) (Or.inl ⟨by rfl, ?_⟩) hHeld ?_ ?_
        rotate_left
        ·rintro w' ⟨s0, s1, s2, s3⟩
         go_simp
         with_reducible rfl
        rotate_left
        ·simp only [Act.put, sit, scz, scs, i64_w, i32_w]
         rfl
        refine one_ (i := 8) (N := some 25) #[true, true, true, true, true, true, true, true, true, false] rfl rfl (one_of HT_.out (by kernel_rfl)) (by decide) (fun K hK => ?_)
        refine goes_ Try.func105 (by kernel_rfl) rfl #[.agg #[.int .i64 ((rd_T55 l0 x5_1).f0), .string ((rd_T55 l0 x5_1).f1)], .agg #[.int .i64 ((rd_T55 l1 x5_1).f0), .string ((rd_T55 l1 x5_1).f1)]] (by rfl) rfl rfl (by (try simp only [mta, mco, mni]); first | done | rfl | (simp only [lnd, lnt]; rfl)) ?_
        with_reducible refine (laws_eqPending.calls ((rd_T55 l0 x5_1).f0) ((rd_T55 l0 x5_1).f1) ((rd_T55 l1 x5_1).f0) ((rd_T55 l1 x5_1).f1) true _ A7.out).mono ?_
        rintro e w10 ⟨rfl, hb⟩
        refine ⟨_, rfl, ?_⟩
        have n0_ := am (below_step (by repeat (first | (with_reducible first | exact HB.out | apply bal | apply pdn | apply bd1) | exact HB.out)) hb)
        clear HB
        have HB := n0_
        clear n0_
        refine hK.out _ _ ⟨((HB.out.cell (blc w _ hw136_0)).trans hw136_0), ((HB.out.cell (blc w _ hw136_1)).trans hw136_1), ((HB.out.cell (blc w _ hw137_0)).trans hw137_0), ((HB.out.cell (blc w _ hw137_1)).trans hw137_1)⟩ (fun hHeld => ?_)
        clear hK K
        refine norm_ (a' := ?_) ?_ ?_
        rotate_left
        ·show Act.put _ (some 25) _ = _
         simp only [Act.put, sit, scz, scs, i64_w, i32_w]
         rfl
        refine pure_ (i := 9) (N := some 26) (v := ?_) (a' := ?_) #[true, true, true, true, true, true, true, true, true, true] rfl rfl (any_of HT_.out (by kernel_rfl)) (fun _ _ _ h => h) (Or.inl ⟨by rfl, ?_⟩) ?_ ?_
        rotate_left
        ·intro w'
         go_simp
         with_reducible rfl
        rotate_left
        ·simp only [Act.put, sit, scz, scs, i64_w, i32_w]
         rfl
        refine done_ (done_of HT_.out (by kernel_rfl)) ?_
        try go_wp2
        go_roundg k1
        case measure => have := HK1.out; omega
        case rel => exact ⟨(wrap64 (x5_1 + 1)), (by first | rfl | (simp; done) | (simp [*]; done)), H', ⟨by have := HK1.out; omega⟩, ⟨by repeat (first | (with_reducible first | exact HB.out | apply bal | apply pdn | apply bd1) | exact HB.out)⟩⟩
       ·replace c8 := Bool.eq_false_iff.mpr c8
        subst c8
        have H1 : (some false) = some r := by rw [if_neg (show ¬ (false = true) by decide)] at H; exact H
        clear H
        have H := H1
        clear H1
        obtain rfl := Option.some.inj H
        try go_wp2
        have n0_ := am (bd1 HB.out)
        clear HB
        have HB := n0_
        clear n0_
        have p136 : 0 ≤ (x5_1 : Int) := of_decide_eq_true (by first | (with_reducible assumption) | assumption)
        have q136 : x5_1 < (l0.length : Int) := of_decide_eq_true (by first | (with_reducible assumption) | assumption)
        obtain ⟨ad136, e136, hx136_0, hx136_1⟩ := at_T55 HR0.out x5_1 p136 q136
        have hw136_1 := hx136_1
        have hw136_0 := hx136_0
        cases e136
        replace hx136_0 := (HB.out.cell (blc w _ hx136_0)).trans hx136_0
        replace hx136_1 := (HB.out.cell (blc w _ hx136_1)).trans hx136_1
        replace p136 := eq_true p136
        replace q136 := eq_true q136
        have p137 : 0 ≤ (x5_1 : Int) := of_decide_eq_true (by first | (with_reducible assumption) | assumption)
        have q137 : x5_1 < (l1.length : Int) := of_decide_eq_true (by first | (with_reducible assumption) | assumption)
        obtain ⟨ad137, e137, hx137_0, hx137_1⟩ := at_T55 HR1.out x5_1 p137 q137
        have hw137_1 := hx137_1
        have hw137_0 := hx137_0
        cases e137
        replace hx137_0 := (HB.out.cell (blc w _ hx137_0)).trans hx137_0
        replace hx137_1 := (HB.out.cell (blc w _ hx137_1)).trans hx137_1
        replace p137 := eq_true p137
        replace q137 := eq_true q137
        refine start_ (n := 10) (S := fun w' => w'.cell? (ad136.add ((x5_1).toNat * 2)) = some (.int .i64 ((rd_T55 l0 x5_1).f0)) ∧ w'.cell? ⟨(ad136.add ((x5_1).toNat * 2)).block, (ad136.add ((x5_1).toNat * 2)).off + 1, none⟩ = some (.string ((rd_T55 l0 x5_1).f1)) ∧ w'.cell? (ad137.add ((x5_1).toNat * 2)) = some (.int .i64 ((rd_T55 l1 x5_1).f0)) ∧ w'.cell? ⟨(ad137.add ((x5_1).toNat * 2)).block, (ad137.add ((x5_1).toNat * 2)).off + 1, none⟩ = some (.string ((rd_T55 l1 x5_1).f1))) (ds := []) #[false, false, false, false, false, false, false, false, false, false] (by kernel_rfl) rfl rfl ⟨((HB.out.cell (blc w _ hw136_0)).trans hw136_0), ((HB.out.cell (blc w _ hw136_1)).trans hw136_1), ((HB.out.cell (blc w _ hw137_0)).trans hw137_0), ((HB.out.cell (blc w _ hw137_1)).trans hw137_1)⟩ (fun hHeld => ?_); refine with_tabW laws_eqPendingS.tab6 laws_eqPendingS.bits6 (fun HT_ HW_ => ?_)
        generalize wr.drew = w11 at HB hx136_0 hx136_1 hx137_0 hx137_1 hHeld ⊢
        refine pure_ (i := 0) (N := some 17) (v := ?_) (a' := ?_) #[true, false, false, false, false, false, false, false, false, false] rfl rfl (any_of HT_.out (by kernel_rfl)) (fun _ _ _ h => h) (Or.inl ⟨by rfl, ?_⟩) ?_ ?_
        rotate_left
        ·intro w'
         go_simp
         with_reducible rfl
        rotate_left
        ·simp only [Act.put, sit, scz, scs, i64_w, i32_w]
         rfl
        refine pure_ (i := 1) (N := some 18) (v := ?_) (a' := ?_) #[true, true, false, false, false, false, false, false, false, false] rfl rfl (any_of HT_.out (by kernel_rfl)) (fun _ _ _ h => h) (Or.inl ⟨by rfl, ?_⟩) ?_ ?_
        rotate_left
        ·intro w'
         go_simp
         with_reducible rfl
        rotate_left
        ·simp only [Act.put, sit, scz, scs, i64_w, i32_w]
         rfl
        refine pure_ (i := 2) (N := some 19) (v := ?_) (a' := ?_) #[true, true, true, false, false, false, false, false, false, false] rfl rfl (any_of HT_.out (by kernel_rfl)) (fun _ _ _ h => h) (Or.inl ⟨by rfl, ?_⟩) ?_ ?_
        rotate_left
        ·intro w'
         go_simp
         with_reducible rfl
        rotate_left
        ·simp only [Act.put, sit, scz, scs, i64_w, i32_w]
         rfl
        refine pure_ (i := 4) (N := some 21) (v := ?_) (a' := ?_) #[true, true, true, false, true, false, false, false, false, false] rfl rfl (any_of HT_.out (by kernel_rfl)) (fun _ _ _ h => h) (Or.inl ⟨by rfl, ?_⟩) ?_ ?_
        rotate_left
        ·intro w'
         go_simp
         with_reducible rfl
        rotate_left
        ·simp only [Act.put, sit, scz, scs, i64_w, i32_w]
         rfl
        refine pure_ (i := 5) (N := some 22) (v := ?_) (a' := ?_) #[true, true, true, false, true, true, false, false, false, false] rfl rfl (any_of HT_.out (by kernel_rfl)) (fun _ _ _ h => h) (Or.inl ⟨by rfl, ?_⟩) ?_ ?_
        rotate_left
        ·intro w'
         go_simp
         with_reducible rfl
        rotate_left
        ·simp only [Act.put, sit, scz, scs, i64_w, i32_w]
         rfl
        refine pure_ (i := 6) (N := some 23) (v := ?_) (a' := ?_) #[true, true, true, false, true, true, true, false, false, false] rfl rfl (any_of HT_.out (by kernel_rfl)) (fun _ _ _ h => h) (Or.inl ⟨by rfl, ?_⟩) ?_ ?_
        rotate_left
        ·intro w'
         go_simp
         with_reducible rfl
        rotate_left
        ·simp only [Act.put, sit, scz, scs, i64_w, i32_w]
         rfl
        refine take_ (i := 3) (N := some 20) (v := ?_) (a' := ?_) #[true, true, true, true, true, true, true, false, false, false] rfl rfl (take_ofW HT_.out HW_.out (by kernel_rfl)) (fun _ _ _ h => h) (Or.inl ⟨by rfl, ?_⟩) hHeld ?_ ?_
        rotate_left
        ·rintro w' ⟨s0, s1, s2, s3⟩
         go_simp
         with_reducible rfl
        rotate_left
        ·simp only [Act.put, sit, scz, scs, i64_w, i32_w]
         rfl
        refine take_ (i := 7) (N := some 24) (v := ?_) (a' := ?_) #[true, true, true, true, true, true, true, true, false, false] rfl rfl (take_ofW HT_.out HW_.out (by kernel_rfl)) (fun _ _ _ h => h) (Or.inl ⟨by rfl, ?_⟩) hHeld ?_ ?_
        rotate_left
        ·rintro w' ⟨s0, s1, s2, s3⟩
         go_simp
         with_reducible rfl
        rotate_left
        ·simp only [Act.put, sit, scz, scs, i64_w, i32_w]
         rfl
        refine one_ (i := 8) (N := some 25) #[true, true, true, true, true, true, true, true, true, false] rfl rfl (one_of HT_.out (by kernel_rfl)) (by decide) (fun K hK => ?_)
        refine goes_ Try.func105 (by kernel_rfl) rfl #[.agg #[.int .i64 ((rd_T55 l0 x5_1).f0), .string ((rd_T55 l0 x5_1).f1)], .agg #[.int .i64 ((rd_T55 l1 x5_1).f0), .string ((rd_T55 l1 x5_1).f1)]] (by rfl) rfl rfl (by (try simp only [mta, mco, mni]); first | done | rfl | (simp only [lnd, lnt]; rfl)) ?_
        with_reducible refine (laws_eqPending.calls ((rd_T55 l0 x5_1).f0) ((rd_T55 l0 x5_1).f1) ((rd_T55 l1 x5_1).f0) ((rd_T55 l1 x5_1).f1) false _ A7.out).mono ?_
        rintro e w12 ⟨rfl, hb⟩
        refine ⟨_, rfl, ?_⟩
        have n0_ := am (below_step (by repeat (first | (with_reducible first | exact HB.out | apply bal | apply pdn | apply bd1) | exact HB.out)) hb)
        clear HB
        have HB := n0_
        clear n0_
        refine hK.out _ _ ⟨((HB.out.cell (blc w _ hw136_0)).trans hw136_0), ((HB.out.cell (blc w _ hw136_1)).trans hw136_1), ((HB.out.cell (blc w _ hw137_0)).trans hw137_0), ((HB.out.cell (blc w _ hw137_1)).trans hw137_1)⟩ (fun hHeld => ?_)
        clear hK K
        refine norm_ (a' := ?_) ?_ ?_
        rotate_left
        ·show Act.put _ (some 25) _ = _
         simp only [Act.put, sit, scz, scs, i64_w, i32_w]
         rfl
        refine pure_ (i := 9) (N := some 26) (v := ?_) (a' := ?_) #[true, true, true, true, true, true, true, true, true, true] rfl rfl (any_of HT_.out (by kernel_rfl)) (fun _ _ _ h => h) (Or.inl ⟨by rfl, ?_⟩) ?_ ?_
        rotate_left
        ·intro w'
         go_simp
         with_reducible rfl
        rotate_left
        ·simp only [Act.put, sit, scz, scs, i64_w, i32_w]
         rfl
        refine done_ (done_of HT_.out (by kernel_rfl)) ?_
        try go_wp2
        go_ret
        exact ⟨by first | rfl | (simp [errW_none, errW_some] <;> rfl) | (simp [*, errW_none, errW_some] <;> rfl), by repeat (first | (with_reducible first | exact HB.out | apply bal | apply pdn | apply bd1) | exact HB.out)⟩
      ·rw [if_neg c6] at H
       exact absurd H (by simp)
     ·rw [if_neg c5] at H
      exact absurd H (by simp)
    ·rw [if_neg c4] at H
     have c4b0 : decide (x5_1 < (l0.length : Int)) = false := decide_eq_false c4
     clear c4
     obtain rfl := Option.some.inj H
     go_wp2
     go_ret
     exact ⟨by first | rfl | (simp [errW_none, errW_some] <;> rfl) | (simp [*, errW_none, errW_some] <;> rfl), by repeat (first | (with_reducible first | exact HB.out | apply bal | apply pdn | apply bd1) | exact HB.out)⟩
 ·rw [if_neg c3] at H
  have c3b0 : ((l0.length : Int) == (l1.length : Int)) = false := beq_eq_false_iff_ne.mpr c3
  have c3b1 : ((l0.length : Int) != (l1.length : Int)) = true := bne_iff_ne.mpr c3
  have c3b2 : (l0.length == l1.length) = false := by first | simpa using c3 | (simp at c3 ⊢; omega)
  obtain rfl := Option.some.inj H
  go_enter Try.func66, Try.ntmps66
  go_wp2
  go_ret
  exact ⟨by first | rfl | (simp [errW_none, errW_some] <;> rfl) | (simp [*, errW_none, errW_some] <;> rfl), by repeat (first | (with_reducible first | exact HB.out | apply bal | apply pdn | apply bd1) | exact HB.out)⟩

/-! ### laws_eqDisk: function 19 -/
def laws_eqDisk.f (k : Nat) (l0_0 : List ByteArray) (l0_1 : List (S55)) (l1_0 : List ByteArray) (l1_1 : List (S55)) : Option (Bool) := (laws_eqStringS.f k l0_0 l1_0).bind fun t141 => (if t141 = true then ((laws_eqPendingS.f k l0_1 l1_1).bind fun t142 => (if t142 = true then (some true) else (some false))) else (some false))
theorem laws_eqDisk.mono : ∀ a0 a1 a2 a3 k, LeO (laws_eqDisk.f k a0 a1 a2 a3) (laws_eqDisk.f (k + 1) a0 a1 a2 a3) := by
 intro a0 a1 a2 a3 k
 unfold laws_eqDisk.f
 repeat' first
   | (with_reducible exact laws_eqPendingS.mono _ _ _)
   | (with_reducible exact laws_eqStringS.mono _ _ _)
   | (with_reducible exact LeO.refl _)
   | (with_reducible exact LeO.none _)
   | (with_reducible refine LeO.ite ?_ ?_)
   | (with_reducible refine LeO.bind ?_ (fun _ => ?_))
   | exact laws_eqPendingS.mono _ _ _
   | exact laws_eqStringS.mono _ _ _
   | exact LeO.none _
   | refine LeO.ite ?_ ?_
   | refine LeO.bind ?_ (fun _ => ?_)
set_option maxHeartbeats 8000000 in
set_option maxRecDepth 100000 in
theorem laws_eqDisk.calls (k : Nat) (A0_0 : Option Addr) (c0_0 : Nat) (l0_0 : List ByteArray) (A0_1 : Option Addr) (c0_1 : Nat) (l0_1 : List (S55)) (A1_0 : Option Addr) (c1_0 : Nat) (l1_0 : List ByteArray) (A1_1 : Option Addr) (c1_1 : Nat) (l1_1 : List (S55)) (r : Bool) (w : World) (hr0_0 : Kd.C Kd.string w A0_0 l0_0.length l0_0) (hc0_0 : l0_0.length ≤ c0_0) (hr0_1 : Kd.C k55 w A0_1 l0_1.length l0_1) (hc0_1 : l0_1.length ≤ c0_1) (hr1_0 : Kd.C Kd.string w A1_0 l1_0.length l1_0) (hc1_0 : l1_0.length ≤ c1_0) (hr1_1 : Kd.C k55 w A1_1 l1_1.length l1_1) (hc1_1 : l1_1.length ≤ c1_1) (h : laws_eqDisk.f k l0_0 l0_1 l1_0 l1_1 = some r) :
  Calls Try.prog 19 #[.agg #[.slice A0_0 l0_0.length c0_0, .slice A0_1 l0_1.length c0_1], .agg #[.slice A1_0 l1_0.length c1_0, .slice A1_1 l1_1.length c1_1]] w fun e w' => e = .returned (.bool r) ∧ Below w.heap.size w w' := by
 have hu30 := Try.underlying30
 have HR0_0 := am hr0_0
 have HC0_0 := am hc0_0
 clear hr0_0 hc0_0
 have HR0_1 := am hr0_1
 have HC0_1 := am hc0_1
 clear hr0_1 hc0_1
 have HR1_0 := am hr1_0
 have HC1_0 := am hc1_0
 clear hr1_0 hc1_0
 have HR1_1 := am hr1_1
 have HC1_1 := am hc1_1
 clear hr1_1 hc1_1
 have HB := am (Below.refl w.heap.size w)
 have H : ((laws_eqStringS.f k l0_0 l1_0).bind fun t141 => (if t141 = true then ((laws_eqPendingS.f k l0_1 l1_1).bind fun t142 => (if t142 = true then (some true) else (some false))) else (some false))) = some r := h
 clear h
 replace H := Option.bind_eq_some_iff.mp H
 obtain ⟨t141, A30, H⟩ := H
 replace H : (if t141 = true then ((laws_eqPendingS.f k l0_1 l1_1).bind fun t142 => (if t142 = true then (some true) else (some false))) else (some false)) = some r := H
 have A3 := am A30
 clear A30
 by_cases c4 : t141 = true
 ·subst c4
  have H1 : ((laws_eqPendingS.f k l0_1 l1_1).bind fun t142 => (if t142 = true then (some true) else (some false))) = some r := by rw [if_pos rfl] at H; exact H
  clear H
  have H := H1
  clear H1
  replace H := Option.bind_eq_some_iff.mp H
  obtain ⟨t142, A50, H⟩ := H
  replace H : (if t142 = true then (some true) else (some false)) = some r := H
  have A5 := am A50
  clear A50
  by_cases c6 : t142 = true
  ·subst c6
   have H1 : (some true) = some r := by rw [if_pos rfl] at H; exact H
   clear H
   have H := H1
   clear H1
   obtain rfl := Option.some.inj H
   go_enter Try.func19, Try.ntmps19
   go_wp2_with (first | ((with_reducible refine gate_dst (N := 2) rfl ?_); refine box_event ?hg (N := 2) ?hd (cs := #[.slice A0_0 l0_0.length c0_0, .slice A0_1 l0_1.length c0_1]) (t := 30) ?hr ?_; (case hd => rfl); (case hg => rfl); (case hr => first | (go_simp; done) | (go_simp; rfl)); intro gb139 hg w7 hbox hb; have n0_ := am (below_step (by repeat (first | (with_reducible first | exact HB.out | apply bal | apply pdn | apply bd1) | exact HB.out)) hb); have n1_ := am (hbox); have n2_ := am ((by rw [hg]; exact (below_size (by repeat (first | (with_reducible first | exact HB.out | apply bal | apply pdn | apply bd1) | exact HB.out))) : w.heap.size ≤ gb139)); have n3_ := am ((by rw [hg]; exact (below_size (by repeat (first | (with_reducible first | exact HB.out | apply bal | apply pdn | apply bd1) | exact HB.out))) : w.heap.size ≤ gb139)); clear HB; have HB := n0_; have BK139 := n1_; have GW139 := n2_; have GE139 := n3_; clear n0_ n1_ n2_ n3_; clear hb hbox hg) | ((with_reducible refine gate_dst (N := 3) rfl ?_); refine box_event ?hg (N := 3) ?hd (cs := #[.slice A1_0 l1_0.length c1_0, .slice A1_1 l1_1.length c1_1]) (t := 30) ?hr ?_; (case hd => rfl); (case hg => rfl); (case hr => first | (go_simp; done) | (go_simp; rfl)); intro gb140 hg w8 hbox hb; have n0_ := am (kbb (g := gb139) (o := .cells #[.slice A0_0 l0_0.length c0_0, .slice A0_1 l0_1.length c0_1] 30 (0, 0)) (by (with_reducible repeat (first | apply kdn | apply kdr | apply kal)); exact BK139.out) hb); have n1_ := am (below_step (by repeat (first | (with_reducible first | exact HB.out | apply bal | apply pdn | apply bd1 | refine bst ?_ GE139.out) | exact HB.out)) hb); have n2_ := am (hbox); have n3_ := am ((by rw [hg]; exact (below_size (by repeat (first | (with_reducible first | exact HB.out | apply bal | apply pdn | apply bd1 | refine bst ?_ GE139.out) | exact HB.out))) : w.heap.size ≤ gb140)); have n4_ := am ((by rw [hg]; exact (below_size (by repeat (first | (with_reducible first | exact HB.out | apply bal | apply pdn | apply bd1 | refine bst ?_ GE139.out) | exact HB.out))) : w.heap.size ≤ gb140)); have n5_ := am ((by rw [hg]; exact Nat.ne_of_lt (blk_lt (g := gb139) (o := .cells #[.slice A0_0 l0_0.length c0_0, .slice A0_1 l0_1.length c0_1] 30 (0, 0)) (by (with_reducible repeat (first | apply kdn | apply kdr | apply kal)); exact BK139.out)) : gb139 ≠ gb140)); have n6_ := am ((by rw [hg]; exact Nat.ne_of_gt (blk_lt (g := gb139) (o := .cells #[.slice A0_0 l0_0.length c0_0, .slice A0_1 l0_1.length c0_1] 30 (0, 0)) (by (with_reducible repeat (first | apply kdn | apply kdr | apply kal)); exact BK139.out)) : gb140 ≠ gb139)); clear BK139; clear HB; have BK139 := n0_; have HB := n1_; have BK140 := n2_; have GW140 := n3_; have GE140 := n4_; have NB139_140 := n5_; have NB140_139 := n6_; clear n0_ n1_ n2_ n3_ n4_ n5_ n6_; clear hb hbox hg; have hnb9 := NB139_140.out; have hnc9 := NB140_139.out; have hcz10_0 : w8.cell? ⟨gb139, 0, none⟩ = some (.slice A0_0 l0_0.length c0_0) := (kce BK139.out 0).trans rfl; have hcz10_1 : w8.cell? ⟨gb139, 1, none⟩ = some (.slice A0_1 l0_1.length c0_1) := (kce BK139.out 1).trans rfl; have hfz10_0 := kfr BK139.out 0; have hfz10_1 := kfr BK139.out 1; have hcz11_0 : w8.cell? ⟨gb140, 0, none⟩ = some (.slice A1_0 l1_0.length c1_0) := (kce BK140.out 0).trans rfl; have hcz11_1 : w8.cell? ⟨gb140, 1, none⟩ = some (.slice A1_1 l1_1.length c1_1) := (kce BK140.out 1).trans rfl; have hfz11_0 := kfr BK140.out 0; have hfz11_1 := kfr BK140.out 1) | ((with_reducible refine gate_callee (f := 65) rfl ?_); refine goesL_ (some 9) rfl rfl Try.func65 (by kernel_rfl) rfl #[.slice A0_0 l0_0.length c0_0, .slice A1_0 l1_0.length c1_0] rfl (by (try simp only [mta, mco, mni]); first | done | rfl | (simp only [lnd, lnt]; rfl)) ?_; (with_reducible refine (laws_eqStringS.calls k _ _ l0_0 _ _ l1_0 true _ ?side1 ?side2 ?side3 ?side4 A3.out).mono ?_); (case side1 => repeat (first | exact (Kd.C_below HR0_0.out HB.out) | (with_reducible first | apply kca | apply kcn | apply kcd))); (case side2 => exact HC0_0.out); (case side3 => repeat (first | exact (Kd.C_below HR1_0.out HB.out) | (with_reducible first | apply kca | apply kcn | apply kcd))); (case side4 => exact HC1_0.out); rintro e w' ⟨rfl, ⟨nd, rfl⟩⟩; refine ⟨_, rfl, ?_⟩) | ((with_reducible refine gate_callee (f := 66) rfl ?_); refine goesL_ (some 15) rfl rfl Try.func66 (by kernel_rfl) rfl #[.slice A0_1 l0_1.length c0_1, .slice A1_1 l1_1.length c1_1] rfl (by (try simp only [mta, mco, mni]); first | done | rfl | (simp only [lnd, lnt]; rfl)) ?_; (with_reducible refine (laws_eqPendingS.calls k _ _ l0_1 _ _ l1_1 true _ ?side1 ?side2 ?side3 ?side4 A5.out).mono ?_); (case side1 => repeat (first | exact (Kd.C_below HR0_1.out (by repeat (first | (with_reducible first | exact HB.out | apply bal | apply pdn | apply bd1 | refine bst ?_ GE139.out | refine bst ?_ GE140.out) | exact HB.out))) | (with_reducible first | apply kca | apply kcn | apply kcd))); (case side2 => exact HC0_1.out); (case side3 => repeat (first | exact (Kd.C_below HR1_1.out (by repeat (first | (with_reducible first | exact HB.out | apply bal | apply pdn | apply bd1 | refine bst ?_ GE139.out | refine bst ?_ GE140.out) | exact HB.out))) | (with_reducible first | apply kca | apply kcn | apply kcd))); (case side4 => exact HC1_1.out); rintro e w12 ⟨rfl, hb⟩; refine ⟨_, rfl, ?_⟩; have n0_ := am (kbb (g := gb139) (o := .cells #[.slice A0_0 l0_0.length c0_0, .slice A0_1 l0_1.length c0_1] 30 (0, 0)) (by (with_reducible repeat (first | apply kdn | apply kdr | apply kal)); exact BK139.out) hb); have n1_ := am (kbb (g := gb140) (o := .cells #[.slice A1_0 l1_0.length c1_0, .slice A1_1 l1_1.length c1_1] 30 (0, 0)) (by (with_reducible repeat (first | apply kdn | apply kdr | apply kal)); exact BK140.out) hb); have n2_ := am (below_step (by repeat (first | (with_reducible first | exact HB.out | apply bal | apply pdn | apply bd1 | refine bst ?_ GE139.out | refine bst ?_ GE140.out) | exact HB.out)) hb); clear BK139; clear BK140; clear HB; have BK139 := n0_; have BK140 := n1_; have HB := n2_; clear n0_ n1_ n2_; (try clear hb); (try clear hb2); (try clear hk); (try clear hi)))
   go_ret
   exact ⟨by first | rfl | (simp [errW_none, errW_some] <;> rfl) | (simp [*, errW_none, errW_some] <;> rfl), by repeat (first | (with_reducible first | exact HB.out | apply bal | apply pdn | apply bd1 | refine bst ?_ GE139.out | refine bst ?_ GE140.out) | exact HB.out)⟩
  ·replace c6 := Bool.eq_false_iff.mpr c6
   subst c6
   have H1 : (some false) = some r := by rw [if_neg (show ¬ (false = true) by decide)] at H; exact H
   clear H
   have H := H1
   clear H1
   obtain rfl := Option.some.inj H
   go_enter Try.func19, Try.ntmps19
   go_wp2_with (first | ((with_reducible refine gate_dst (N := 2) rfl ?_); refine box_event ?hg (N := 2) ?hd (cs := #[.slice A0_0 l0_0.length c0_0, .slice A0_1 l0_1.length c0_1]) (t := 30) ?hr ?_; (case hd => rfl); (case hg => rfl); (case hr => first | (go_simp; done) | (go_simp; rfl)); intro gb139 hg w13 hbox hb; have n0_ := am (below_step (by repeat (first | (with_reducible first | exact HB.out | apply bal | apply pdn | apply bd1) | exact HB.out)) hb); have n1_ := am (hbox); have n2_ := am ((by rw [hg]; exact (below_size (by repeat (first | (with_reducible first | exact HB.out | apply bal | apply pdn | apply bd1) | exact HB.out))) : w.heap.size ≤ gb139)); have n3_ := am ((by rw [hg]; exact (below_size (by repeat (first | (with_reducible first | exact HB.out | apply bal | apply pdn | apply bd1) | exact HB.out))) : w.heap.size ≤ gb139)); clear HB; have HB := n0_; have BK139 := n1_; have GW139 := n2_; have GE139 := n3_; clear n0_ n1_ n2_ n3_; clear hb hbox hg) | ((with_reducible refine gate_dst (N := 3) rfl ?_); refine box_event ?hg (N := 3) ?hd (cs := #[.slice A1_0 l1_0.length c1_0, .slice A1_1 l1_1.length c1_1]) (t := 30) ?hr ?_; (case hd => rfl); (case hg => rfl); (case hr => first | (go_simp; done) | (go_simp; rfl)); intro gb140 hg w14 hbox hb; have n0_ := am (kbb (g := gb139) (o := .cells #[.slice A0_0 l0_0.length c0_0, .slice A0_1 l0_1.length c0_1] 30 (0, 0)) (by (with_reducible repeat (first | apply kdn | apply kdr | apply kal)); exact BK139.out) hb); have n1_ := am (below_step (by repeat (first | (with_reducible first | exact HB.out | apply bal | apply pdn | apply bd1 | refine bst ?_ GE139.out) | exact HB.out)) hb); have n2_ := am (hbox); have n3_ := am ((by rw [hg]; exact (below_size (by repeat (first | (with_reducible first | exact HB.out | apply bal | apply pdn | apply bd1 | refine bst ?_ GE139.out) | exact HB.out))) : w.heap.size ≤ gb140)); have n4_ := am ((by rw [hg]; exact (below_size (by repeat (first | (with_reducible first | exact HB.out | apply bal | apply pdn | apply bd1 | refine bst ?_ GE139.out) | exact HB.out))) : w.heap.size ≤ gb140)); have n5_ := am ((by rw [hg]; exact Nat.ne_of_lt (blk_lt (g := gb139) (o := .cells #[.slice A0_0 l0_0.length c0_0, .slice A0_1 l0_1.length c0_1] 30 (0, 0)) (by (with_reducible repeat (first | apply kdn | apply kdr | apply kal)); exact BK139.out)) : gb139 ≠ gb140)); have n6_ := am ((by rw [hg]; exact Nat.ne_of_gt (blk_lt (g := gb139) (o := .cells #[.slice A0_0 l0_0.length c0_0, .slice A0_1 l0_1.length c0_1] 30 (0, 0)) (by (with_reducible repeat (first | apply kdn | apply kdr | apply kal)); exact BK139.out)) : gb140 ≠ gb139)); clear BK139; clear HB; have BK139 := n0_; have HB := n1_; have BK140 := n2_; have GW140 := n3_; have GE140 := n4_; have NB139_140 := n5_; have NB140_139 := n6_; clear n0_ n1_ n2_ n3_ n4_ n5_ n6_; clear hb hbox hg; have hnb15 := NB139_140.out; have hnc15 := NB140_139.out; have hcz16_0 : w14.cell? ⟨gb139, 0, none⟩ = some (.slice A0_0 l0_0.length c0_0) := (kce BK139.out 0).trans rfl; have hcz16_1 : w14.cell? ⟨gb139, 1, none⟩ = some (.slice A0_1 l0_1.length c0_1) := (kce BK139.out 1).trans rfl; have hfz16_0 := kfr BK139.out 0; have hfz16_1 := kfr BK139.out 1; have hcz17_0 : w14.cell? ⟨gb140, 0, none⟩ = some (.slice A1_0 l1_0.length c1_0) := (kce BK140.out 0).trans rfl; have hcz17_1 : w14.cell? ⟨gb140, 1, none⟩ = some (.slice A1_1 l1_1.length c1_1) := (kce BK140.out 1).trans rfl; have hfz17_0 := kfr BK140.out 0; have hfz17_1 := kfr BK140.out 1) | ((with_reducible refine gate_callee (f := 65) rfl ?_); refine goesL_ (some 9) rfl rfl Try.func65 (by kernel_rfl) rfl #[.slice A0_0 l0_0.length c0_0, .slice A1_0 l1_0.length c1_0] rfl (by (try simp only [mta, mco, mni]); first | done | rfl | (simp only [lnd, lnt]; rfl)) ?_; (with_reducible refine (laws_eqStringS.calls k _ _ l0_0 _ _ l1_0 true _ ?side1 ?side2 ?side3 ?side4 A3.out).mono ?_); (case side1 => repeat (first | exact (Kd.C_below HR0_0.out HB.out) | (with_reducible first | apply kca | apply kcn | apply kcd))); (case side2 => exact HC0_0.out); (case side3 => repeat (first | exact (Kd.C_below HR1_0.out HB.out) | (with_reducible first | apply kca | apply kcn | apply kcd))); (case side4 => exact HC1_0.out); rintro e w' ⟨rfl, ⟨nd, rfl⟩⟩; refine ⟨_, rfl, ?_⟩) | ((with_reducible refine gate_callee (f := 66) rfl ?_); refine goesL_ (some 15) rfl rfl Try.func66 (by kernel_rfl) rfl #[.slice A0_1 l0_1.length c0_1, .slice A1_1 l1_1.length c1_1] rfl (by (try simp only [mta, mco, mni]); first | done | rfl | (simp only [lnd, lnt]; rfl)) ?_; (with_reducible refine (laws_eqPendingS.calls k _ _ l0_1 _ _ l1_1 false _ ?side1 ?side2 ?side3 ?side4 A5.out).mono ?_); (case side1 => repeat (first | exact (Kd.C_below HR0_1.out (by repeat (first | (with_reducible first | exact HB.out | apply bal | apply pdn | apply bd1 | refine bst ?_ GE139.out | refine bst ?_ GE140.out) | exact HB.out))) | (with_reducible first | apply kca | apply kcn | apply kcd))); (case side2 => exact HC0_1.out); (case side3 => repeat (first | exact (Kd.C_below HR1_1.out (by repeat (first | (with_reducible first | exact HB.out | apply bal | apply pdn | apply bd1 | refine bst ?_ GE139.out | refine bst ?_ GE140.out) | exact HB.out))) | (with_reducible first | apply kca | apply kcn | apply kcd))); (case side4 => exact HC1_1.out); rintro e w18 ⟨rfl, hb⟩; refine ⟨_, rfl, ?_⟩; have n0_ := am (kbb (g := gb139) (o := .cells #[.slice A0_0 l0_0.length c0_0, .slice A0_1 l0_1.length c0_1] 30 (0, 0)) (by (with_reducible repeat (first | apply kdn | apply kdr | apply kal)); exact BK139.out) hb); have n1_ := am (kbb (g := gb140) (o := .cells #[.slice A1_0 l1_0.length c1_0, .slice A1_1 l1_1.length c1_1] 30 (0, 0)) (by (with_reducible repeat (first | apply kdn | apply kdr | apply kal)); exact BK140.out) hb); have n2_ := am (below_step (by repeat (first | (with_reducible first | exact HB.out | apply bal | apply pdn | apply bd1 | refine bst ?_ GE139.out | refine bst ?_ GE140.out) | exact HB.out)) hb); clear BK139; clear BK140; clear HB; have BK139 := n0_; have BK140 := n1_; have HB := n2_; clear n0_ n1_ n2_; (try clear hb); (try clear hb2); (try clear hk); (try clear hi)))
   go_ret
   exact ⟨by first | rfl | (simp [errW_none, errW_some] <;> rfl) | (simp [*, errW_none, errW_some] <;> rfl), by repeat (first | (with_reducible first | exact HB.out | apply bal | apply pdn | apply bd1 | refine bst ?_ GE139.out | refine bst ?_ GE140.out) | exact HB.out)⟩
 ·replace c4 := Bool.eq_false_iff.mpr c4
  subst c4
  have H1 : (some false) = some r := by rw [if_neg (show ¬ (false = true) by decide)] at H; exact H
  clear H
  have H := H1
  clear H1
  obtain rfl := Option.some.inj H
  go_enter Try.func19, Try.ntmps19
  go_wp2_with (first | ((with_reducible refine gate_dst (N := 2) rfl ?_); refine box_event ?hg (N := 2) ?hd (cs := #[.slice A0_0 l0_0.length c0_0, .slice A0_1 l0_1.length c0_1]) (t := 30) ?hr ?_; (case hd => rfl); (case hg => rfl); (case hr => first | (go_simp; done) | (go_simp; rfl)); intro gb139 hg w19 hbox hb; have n0_ := am (below_step (by repeat (first | (with_reducible first | exact HB.out | apply bal | apply pdn | apply bd1) | exact HB.out)) hb); have n1_ := am (hbox); have n2_ := am ((by rw [hg]; exact (below_size (by repeat (first | (with_reducible first | exact HB.out | apply bal | apply pdn | apply bd1) | exact HB.out))) : w.heap.size ≤ gb139)); have n3_ := am ((by rw [hg]; exact (below_size (by repeat (first | (with_reducible first | exact HB.out | apply bal | apply pdn | apply bd1) | exact HB.out))) : w.heap.size ≤ gb139)); clear HB; have HB := n0_; have BK139 := n1_; have GW139 := n2_; have GE139 := n3_; clear n0_ n1_ n2_ n3_; clear hb hbox hg) | ((with_reducible refine gate_dst (N := 3) rfl ?_); refine box_event ?hg (N := 3) ?hd (cs := #[.slice A1_0 l1_0.length c1_0, .slice A1_1 l1_1.length c1_1]) (t := 30) ?hr ?_; (case hd => rfl); (case hg => rfl); (case hr => first | (go_simp; done) | (go_simp; rfl)); intro gb140 hg w20 hbox hb; have n0_ := am (kbb (g := gb139) (o := .cells #[.slice A0_0 l0_0.length c0_0, .slice A0_1 l0_1.length c0_1] 30 (0, 0)) (by (with_reducible repeat (first | apply kdn | apply kdr | apply kal)); exact BK139.out) hb); have n1_ := am (below_step (by repeat (first | (with_reducible first | exact HB.out | apply bal | apply pdn | apply bd1 | refine bst ?_ GE139.out) | exact HB.out)) hb); have n2_ := am (hbox); have n3_ := am ((by rw [hg]; exact (below_size (by repeat (first | (with_reducible first | exact HB.out | apply bal | apply pdn | apply bd1 | refine bst ?_ GE139.out) | exact HB.out))) : w.heap.size ≤ gb140)); have n4_ := am ((by rw [hg]; exact (below_size (by repeat (first | (with_reducible first | exact HB.out | apply bal | apply pdn | apply bd1 | refine bst ?_ GE139.out) | exact HB.out))) : w.heap.size ≤ gb140)); have n5_ := am ((by rw [hg]; exact Nat.ne_of_lt (blk_lt (g := gb139) (o := .cells #[.slice A0_0 l0_0.length c0_0, .slice A0_1 l0_1.length c0_1] 30 (0, 0)) (by (with_reducible repeat (first | apply kdn | apply kdr | apply kal)); exact BK139.out)) : gb139 ≠ gb140)); have n6_ := am ((by rw [hg]; exact Nat.ne_of_gt (blk_lt (g := gb139) (o := .cells #[.slice A0_0 l0_0.length c0_0, .slice A0_1 l0_1.length c0_1] 30 (0, 0)) (by (with_reducible repeat (first | apply kdn | apply kdr | apply kal)); exact BK139.out)) : gb140 ≠ gb139)); clear BK139; clear HB; have BK139 := n0_; have HB := n1_; have BK140 := n2_; have GW140 := n3_; have GE140 := n4_; have NB139_140 := n5_; have NB140_139 := n6_; clear n0_ n1_ n2_ n3_ n4_ n5_ n6_; clear hb hbox hg; have hnb21 := NB139_140.out; have hnc21 := NB140_139.out; have hcz22_0 : w20.cell? ⟨gb139, 0, none⟩ = some (.slice A0_0 l0_0.length c0_0) := (kce BK139.out 0).trans rfl; have hcz22_1 : w20.cell? ⟨gb139, 1, none⟩ = some (.slice A0_1 l0_1.length c0_1) := (kce BK139.out 1).trans rfl; have hfz22_0 := kfr BK139.out 0; have hfz22_1 := kfr BK139.out 1; have hcz23_0 : w20.cell? ⟨gb140, 0, none⟩ = some (.slice A1_0 l1_0.length c1_0) := (kce BK140.out 0).trans rfl; have hcz23_1 : w20.cell? ⟨gb140, 1, none⟩ = some (.slice A1_1 l1_1.length c1_1) := (kce BK140.out 1).trans rfl; have hfz23_0 := kfr BK140.out 0; have hfz23_1 := kfr BK140.out 1) | ((with_reducible refine gate_callee (f := 65) rfl ?_); refine goesL_ (some 9) rfl rfl Try.func65 (by kernel_rfl) rfl #[.slice A0_0 l0_0.length c0_0, .slice A1_0 l1_0.length c1_0] rfl (by (try simp only [mta, mco, mni]); first | done | rfl | (simp only [lnd, lnt]; rfl)) ?_; (with_reducible refine (laws_eqStringS.calls k _ _ l0_0 _ _ l1_0 false _ ?side1 ?side2 ?side3 ?side4 A3.out).mono ?_); (case side1 => repeat (first | exact (Kd.C_below HR0_0.out HB.out) | (with_reducible first | apply kca | apply kcn | apply kcd))); (case side2 => exact HC0_0.out); (case side3 => repeat (first | exact (Kd.C_below HR1_0.out HB.out) | (with_reducible first | apply kca | apply kcn | apply kcd))); (case side4 => exact HC1_0.out); rintro e w' ⟨rfl, ⟨nd, rfl⟩⟩; refine ⟨_, rfl, ?_⟩))
  go_ret
  exact ⟨by first | rfl | (simp [errW_none, errW_some] <;> rfl) | (simp [*, errW_none, errW_some] <;> rfl), by repeat (first | (with_reducible first | exact HB.out | apply bal | apply pdn | apply bd1 | refine bst ?_ GE139.out | refine bst ?_ GE140.out) | exact HB.out)⟩

/-! ### spec_l00In: function 57 -/
def spec_l00In.f (a0 : Int) (a1 : Int) (a2 : Int) : Option (Bool) := if a0 ≥ a1 then (some (decide (a0 ≤ a2))) else (some false)
set_option maxHeartbeats 8000000 in
set_option maxRecDepth 100000 in
theorem spec_l00In.calls (a0 : Int) (a1 : Int) (a2 : Int) (r : Bool) (w : World) (h : spec_l00In.f a0 a1 a2 = some r) :
  Calls Try.prog 57 #[.int .i64 a0, .int .i64 a1, .int .i64 a2] w fun e w' => e = .returned (.bool r) ∧ Drawn0 w w' := by
 have H : (if a0 ≥ a1 then (some (decide (a0 ≤ a2))) else (some false)) = some r := h
 clear h
 by_cases c4 : a0 ≥ a1
 ·rw [if_pos c4] at H
  have c4b0 : decide (a1 ≤ a0) = true := decide_eq_true c4
  clear c4
  obtain rfl := Option.some.inj H
  go_enter Try.func57, Try.ntmps57
  go_wp2
  go_ret
  exact ⟨by first | rfl | (simp; done) | (simp [*]; done), by repeat (first | exact Drawn0.refl _ | apply Drawn0.step)⟩
 ·rw [if_neg c4] at H
  have c4b0 : decide (a1 ≤ a0) = false := decide_eq_false c4
  clear c4
  obtain rfl := Option.some.inj H
  go_enter Try.func57, Try.ntmps57
  go_wp2
  go_ret
  exact ⟨by first | rfl | (simp; done) | (simp [*]; done), by repeat (first | exact Drawn0.refl _ | apply Drawn0.step)⟩

end Go.Proofs.Ythphhklbliambaa.MFnExactReadSector
