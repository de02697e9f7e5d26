-- Written by a program of this session (wip/tools/myprint.py) over the kit's print: it is not the kit's print.
import Derived.Test.YtfeaokelfbjcdaaExtra
import Derived.Test.YtfeaokelfbjcdaaMFnExactHeardEnoughx0
import Derived.Test.YtfeaokelfbjcdaaMFnExactHeardEnoughx2
namespace Go.Proofs.Ytfeaokelfbjcdaa.MFnExactHeardEnough
open Go.RowKit Go.Proofs.YtfeaokelfbjcdaaW.PrintWords Go.Proofs.YtfeaokelfbjcdaaW.PrintLast Go.Proofs.YtfeaokelfbjcdaaW.PrintMore
attribute [local go_sem] max2_int min2_int max_two min_two max_three min_three max_four min_four   -- for this text's walks alone
set_option linter.unusedVariables false
set_option linter.unusedSimpArgs false

/-! ### spec_l13Ok: function 56 -/
def spec_l13Ok.l0 : Nat → List (S43) → Int → Int → Option (Bool)
  | 0, _, _, _ => none
  | k + 1, x0, x3, x4 => if x4 < (x0.length : Int) then (if 0 ≤ x4 then (if ((rd_T43 x0 x4).f0) = x3 then ((spec_l00In.f ((rd_T43 x0 x4).f1) ((rd_T43 x0 x4).f0) 60).bind fun t144 => (if t144 = true then ((spec_l12Ok.f k ((rd_T43 x0 x4).f2)).bind fun t145 => (if t145 = true then (if 0 < (x0.length : Int) then (if (((rd_T43 x0 x4).f2).length : Int) = (((rd_T43 x0 0).f2).length : Int) then (spec_l13Ok.l0 k x0 (wrap64 (((rd_T43 x0 x4).f1) + 1)) (wrap64 (x4 + 1))) else (some false)) else (none)) else (some false))) else (some false))) else (some false)) else (none)) else (some true)
def spec_l13Ok.f (k : Nat) (l0 : List (S43)) : Option (Bool) := if (l0.length : Int) > 60 then (some false) else (spec_l13Ok.l0 k l0 1 0)
theorem spec_l13Ok.mono_l : ∀ k, (∀ y0 y1 y2, LeO (spec_l13Ok.l0 k y0 y1 y2) (spec_l13Ok.l0 (k + 1) y0 y1 y2))
  | 0 => fun _ _ _ r h => by simp [spec_l13Ok.l0] at h
  | k + 1 => by
    have ih0 := spec_l13Ok.mono_l k
    · intro y0 y1 y2
      unfold spec_l13Ok.l0
      repeat' first
      | (with_reducible exact ih0 _ _ _)
      | (with_reducible exact spec_l12Ok.mono _ _)
      | (with_reducible exact LeO.refl _)
      | (with_reducible exact LeO.none _)
      | (with_reducible refine LeO.ite ?_ ?_)
      | (with_reducible refine LeO.bind ?_ (fun _ => ?_))
      | exact ih0 _ _ _
      | exact spec_l12Ok.mono _ _
      | exact LeO.none _
      | refine LeO.ite ?_ ?_
      | refine LeO.bind ?_ (fun _ => ?_)
theorem spec_l13Ok.mono : ∀ a0 k, LeO (spec_l13Ok.f k a0) (spec_l13Ok.f (k + 1) a0) := by
  intro a0 k
  have ih0 := spec_l13Ok.mono_l k
  unfold spec_l13Ok.f
  repeat' first
      | (with_reducible exact ih0 _ _ _)
      | (with_reducible exact spec_l12Ok.mono _ _)
      | (with_reducible exact LeO.refl _)
      | (with_reducible exact LeO.none _)
      | (with_reducible refine LeO.ite ?_ ?_)
      | (with_reducible refine LeO.bind ?_ (fun _ => ?_))
      | exact ih0 _ _ _
      | exact spec_l12Ok.mono _ _
      | exact LeO.none _
      | refine LeO.ite ?_ ?_
      | refine LeO.bind ?_ (fun _ => ?_)
set_option maxHeartbeats 8000000 in
set_option maxRecDepth 100000 in
theorem spec_l13Ok.calls (k : Nat) (A0 : Option Addr) (c0 : Nat) (l0 : List (S43)) (r : Bool) (w : World) (hr0 : Kd.C k43 w A0 l0.length l0) (hc0 : l0.length ≤ c0) (h : spec_l13Ok.f k l0 = some r) :
    Calls Try.prog 56 #[.slice A0 l0.length c0] w fun e w' => e = .returned (.bool r) ∧ Below w.heap.size w w' := by
  have hu43 := Try.underlying43
  have HR0 := Aside0.mk hr0
  have HC0 := Aside0.mk hc0
  clear hr0 hc0
  have HB := Aside0.mk (Below.refl w.heap.size w)
  have H : (if (l0.length : Int) > 60 then (some false) else (spec_l13Ok.l0 k l0 1 0)) = some r := h
  clear h
  by_cases c2 : (l0.length : Int) > 60
  · rw [if_pos c2] at H
    have c2b0 : decide (60 < (l0.length : Int)) = true := decide_eq_true c2
    have c2b1 : decide (60 < l0.length) = true := decide_eq_true (by omega)
    clear c2
    obtain rfl := Option.some.inj H
    go_enter Try.func56, Try.ntmps56
    go_wp2
    repeat (go_quiet (fail); try go_wp2)
    go_ret
    exact ⟨by first | rfl | (simp [errW_none, errW_some] <;> rfl) | (simp [*, errW_none, errW_some] <;> rfl), by repeat (first | (with_reducible first | exact HB.out | apply below_alloc | apply pw_below_drewN | apply below_drew1) | exact HB.out)⟩
  · rw [if_neg c2] at H
    have c2b0 : decide (60 < (l0.length : Int)) = false := decide_eq_false c2
    have c2b1 : decide (60 < l0.length) = false := decide_eq_false (by omega)
    clear c2
    have H' := Aside0.mk H
    clear H
    go_enter Try.func56, Try.ntmps56
    go_wp2
    repeat (go_quiet (fail); try go_wp2)
    go_loopg [3, 4] k (fun kq v3 v4 w' => ∃ (x3_1 : Int) (x4_1 : Int), v3 = .int .i64 x3_1 ∧ v4 = .int .i64 x4_1 ∧ Aside0 (spec_l13Ok.l0 kq l0 x3_1 x4_1 = some r) ∧ Aside0 (kq ≤ k) ∧ Aside0 (Below w.heap.size w w'))
    case atStart => exact ⟨(1), (0), (by first | rfl | (simp; done) | (simp [*]; done)), (by first | rfl | (simp; done) | (simp [*]; done)), H', ⟨Nat.le_refl _⟩, ⟨by repeat (first | (with_reducible first | exact HB.out | apply below_alloc | apply pw_below_drewN | apply below_drew1) | exact HB.out)⟩⟩
    case round =>
      clear H'
      try clear c2
      try clear c2b0
      try clear c2b1
      try clear p2
      obtain ⟨x3_1, x4_1, rfl, rfl, HA, HK1, HB⟩ := hrel
      cases gk with
      | zero => exact absurd HA.out (by simp [spec_l13Ok.l0])
      | succ k1 =>
        have H := HA.out
        clear HA
        simp only [spec_l13Ok.l0] at H
        by_cases c3 : x4_1 < (l0.length : Int)
        · rw [if_pos c3] at H
          have c3b0 : decide (x4_1 < (l0.length : Int)) = true := decide_eq_true c3
          clear c3
          by_cases c4 : 0 ≤ x4_1
          · rw [if_pos c4] at H
            have c4b0 : decide (0 ≤ x4_1) = true := decide_eq_true c4
            clear c4
            by_cases c5 : ((rd_T43 l0 x4_1).f0) = x3_1
            · rw [if_pos c5] at H
              have c5b0 : (((rd_T43 l0 x4_1).f0) == x3_1) = true := beq_iff_eq.mpr c5
              have c5b1 : (((rd_T43 l0 x4_1).f0) != x3_1) = false := bne_eq_false_iff_eq.mpr c5
              clear c5
              replace H := Option.bind_eq_some_iff.mp H
              obtain ⟨t144, A60, H⟩ := H
              replace H : (if t144 = true then ((spec_l12Ok.f k1 ((rd_T43 l0 x4_1).f2)).bind fun t145 => (if t145 = true then (if 0 < (l0.length : Int) then (if (((rd_T43 l0 x4_1).f2).length : Int) = (((rd_T43 l0 0).f2).length : Int) then (spec_l13Ok.l0 k1 l0 (wrap64 (((rd_T43 l0 x4_1).f1) + 1)) (wrap64 (x4_1 + 1))) else (some false)) else (none)) else (some false))) else (some false)) = some r := H
              have A6 := Aside0.mk A60
              clear A60
              by_cases c7 : t144 = true
              · subst c7
                have H1 : ((spec_l12Ok.f k1 ((rd_T43 l0 x4_1).f2)).bind fun t145 => (if t145 = true then (if 0 < (l0.length : Int) then (if (((rd_T43 l0 x4_1).f2).length : Int) = (((rd_T43 l0 0).f2).length : Int) then (spec_l13Ok.l0 k1 l0 (wrap64 (((rd_T43 l0 x4_1).f1) + 1)) (wrap64 (x4_1 + 1))) else (some false)) else (none)) else (some false))) = some r := by rw [if_pos rfl] at H; exact H
                clear H
                have H := H1
                clear H1
                replace H := Option.bind_eq_some_iff.mp H
                obtain ⟨t145, A80, H⟩ := H
                replace H : (if t145 = true then (if 0 < (l0.length : Int) then (if (((rd_T43 l0 x4_1).f2).length : Int) = (((rd_T43 l0 0).f2).length : Int) then (spec_l13Ok.l0 k1 l0 (wrap64 (((rd_T43 l0 x4_1).f1) + 1)) (wrap64 (x4_1 + 1))) else (some false)) else (none)) else (some false)) = some r := H
                have A8 := Aside0.mk A80
                clear A80
                by_cases c9 : t145 = true
                · subst c9
                  have H1 : (if 0 < (l0.length : Int) then (if (((rd_T43 l0 x4_1).f2).length : Int) = (((rd_T43 l0 0).f2).length : Int) then (spec_l13Ok.l0 k1 l0 (wrap64 (((rd_T43 l0 x4_1).f1) + 1)) (wrap64 (x4_1 + 1))) else (some false)) else (none)) = some r := by rw [if_pos rfl] at H; exact H
                  clear H
                  have H := H1
                  clear H1
                  by_cases c10 : 0 < (l0.length : Int)
                  · rw [if_pos c10] at H
                    have c10b0 : decide (0 < (l0.length : Int)) = true := decide_eq_true c10
                    have c10b1 : decide (0 < l0.length) = true := decide_eq_true (by omega)
                    clear c10
                    by_cases c11 : (((rd_T43 l0 x4_1).f2).length : Int) = (((rd_T43 l0 0).f2).length : Int)
                    · rw [if_pos c11] at H
                      have c11b0 : ((((rd_T43 l0 x4_1).f2).length : Int) == (((rd_T43 l0 0).f2).length : Int)) = true := beq_iff_eq.mpr c11
                      have c11b1 : ((((rd_T43 l0 x4_1).f2).length : Int) != (((rd_T43 l0 0).f2).length : Int)) = false := bne_eq_false_iff_eq.mpr c11
                      have c11b2 : (((rd_T43 l0 x4_1).f2).length == ((rd_T43 l0 0).f2).length) = true := by first | simpa using c11 | (simp at c11 ⊢; omega)
                      clear c11
                      have H' := Aside0.mk H
                      clear H
                      have p142 : 0 ≤ (x4_1 : Int) := of_decide_eq_true (by first | (with_reducible assumption) | assumption)
                      have q142 : x4_1 < (l0.length : Int) := of_decide_eq_true (by first | (with_reducible assumption) | assumption)
                      obtain ⟨ad142, A142_2, c142_2, e142, hx142_0, hx142_1, hx142_2, hx142_3, hl142_2, hi142_2⟩ := at_T43 HR0.out x4_1 p142 q142
                      cases e142
                      replace hx142_0 := (HB.out.cell (World.block_lt_of_cell? w _ hx142_0)).trans hx142_0
                      replace hx142_1 := (HB.out.cell (World.block_lt_of_cell? w _ hx142_1)).trans hx142_1
                      replace hx142_2 := (HB.out.cell (World.block_lt_of_cell? w _ hx142_2)).trans hx142_2
                      replace hx142_3 := (HB.out.cell (World.block_lt_of_cell? w _ hx142_3)).trans hx142_3
                      have HR142_2 := Aside0.mk hi142_2
                      have HC142_2 := Aside0.mk hl142_2
                      clear hi142_2 hl142_2
                      replace p142 := eq_true p142
                      replace q142 := eq_true q142
                      try (have p146 : 0 ≤ (0 : Int) := (by omega); have q146 : 0 < (l0.length : Int) := of_decide_eq_true (by first | (with_reducible assumption) | assumption); obtain ⟨ad146, A146_2, c146_2, e146, hx146_0, hx146_1, hx146_2, hx146_3, hl146_2, hi146_2⟩ := at_T43 HR0.out 0 p146 q146; obtain rfl : ad142 = ad146 := (by injection e146); have qi146 : (0 < l0.length) = True := eq_true (by omega); (try rw [show ((0 : Int)).toNat = 0 from rfl] at hx146_0); (try rw [show 0 * 4 = 0 from rfl] at hx146_0); (try rw [Addr.add_zero'] at hx146_0); (try rw [show ((0 : Int)).toNat = 0 from rfl] at hx146_1); (try rw [show 0 * 4 = 0 from rfl] at hx146_1); (try rw [Addr.add_zero'] at hx146_1); (try rw [show ((0 : Int)).toNat = 0 from rfl] at hx146_2); (try rw [show 0 * 4 = 0 from rfl] at hx146_2); (try rw [Addr.add_zero'] at hx146_2); (try rw [show ((0 : Int)).toNat = 0 from rfl] at hx146_3); (try rw [show 0 * 4 = 0 from rfl] at hx146_3); (try rw [Addr.add_zero'] at hx146_3); have hn146_0 : ad142.block ≠ gb143 := Nat.ne_of_lt (Nat.lt_of_lt_of_le (by have := World.block_lt_of_cell? _ _ hx146_0; first | rwa [add_block] at this | exact this) GW143.out); have hn146_1 : ad142.block ≠ gb143 := Nat.ne_of_lt (Nat.lt_of_lt_of_le (by have := World.block_lt_of_cell? _ _ hx146_0; first | rwa [add_block] at this | exact this) GW143.out); have hn146_2 : ad142.block ≠ gb143 := Nat.ne_of_lt (Nat.lt_of_lt_of_le (by have := World.block_lt_of_cell? _ _ hx146_0; first | rwa [add_block] at this | exact this) GW143.out); have hn146_3 : ad142.block ≠ gb143 := Nat.ne_of_lt (Nat.lt_of_lt_of_le (by have := World.block_lt_of_cell? _ _ hx146_0; first | rwa [add_block] at this | exact this) GW143.out); replace hx146_0 := (HB.out.cell (World.block_lt_of_cell? w _ hx146_0)).trans hx146_0; replace hx146_1 := (HB.out.cell (World.block_lt_of_cell? w _ hx146_1)).trans hx146_1; replace hx146_2 := (HB.out.cell (World.block_lt_of_cell? w _ hx146_2)).trans hx146_2; replace hx146_3 := (HB.out.cell (World.block_lt_of_cell? w _ hx146_3)).trans hx146_3; have HR146_2 := Aside0.mk hi146_2; have HC146_2 := Aside0.mk hl146_2; clear hi146_2 hl146_2; replace hx146_0 := (cell_far (p := ⟨gb143, 0, none⟩) (by first | (rw [add_block]; exact hn146_0) | (show (Addr.add _ _).block ≠ _; rw [add_block]; exact hn146_0) | exact hn146_0) (.int .i64 ((rd_T43 l0 x4_1).f0))).trans hx146_0; replace hx146_1 := (cell_far (p := ⟨gb143, 0, none⟩) (by first | (rw [add_block]; exact hn146_0) | (show (Addr.add _ _).block ≠ _; rw [add_block]; exact hn146_0) | exact hn146_0) (.int .i64 ((rd_T43 l0 x4_1).f0))).trans hx146_1; replace hx146_2 := (cell_far (p := ⟨gb143, 0, none⟩) (by first | (rw [add_block]; exact hn146_0) | (show (Addr.add _ _).block ≠ _; rw [add_block]; exact hn146_0) | exact hn146_0) (.int .i64 ((rd_T43 l0 x4_1).f0))).trans hx146_2; replace hx146_3 := (cell_far (p := ⟨gb143, 0, none⟩) (by first | (rw [add_block]; exact hn146_0) | (show (Addr.add _ _).block ≠ _; rw [add_block]; exact hn146_0) | exact hn146_0) (.int .i64 ((rd_T43 l0 x4_1).f0))).trans hx146_3; replace hx146_0 := (cell_far (p := ⟨gb143, 1, none⟩) (by first | (rw [add_block]; exact hn146_1) | (show (Addr.add _ _).block ≠ _; rw [add_block]; exact hn146_1) | exact hn146_1) (.int .i64 ((rd_T43 l0 x4_1).f1))).trans hx146_0; replace hx146_1 := (cell_far (p := ⟨gb143, 1, none⟩) (by first | (rw [add_block]; exact hn146_1) | (show (Addr.add _ _).block ≠ _; rw [add_block]; exact hn146_1) | exact hn146_1) (.int .i64 ((rd_T43 l0 x4_1).f1))).trans hx146_1; replace hx146_2 := (cell_far (p := ⟨gb143, 1, none⟩) (by first | (rw [add_block]; exact hn146_1) | (show (Addr.add _ _).block ≠ _; rw [add_block]; exact hn146_1) | exact hn146_1) (.int .i64 ((rd_T43 l0 x4_1).f1))).trans hx146_2; replace hx146_3 := (cell_far (p := ⟨gb143, 1, none⟩) (by first | (rw [add_block]; exact hn146_1) | (show (Addr.add _ _).block ≠ _; rw [add_block]; exact hn146_1) | exact hn146_1) (.int .i64 ((rd_T43 l0 x4_1).f1))).trans hx146_3; replace hx146_0 := (cell_far (p := ⟨gb143, 2, none⟩) (by first | (rw [add_block]; exact hn146_2) | (show (Addr.add _ _).block ≠ _; rw [add_block]; exact hn146_2) | exact hn146_2) (.slice A142_2 ((rd_T43 l0 x4_1).f2).length c142_2)).trans hx146_0; replace hx146_1 := (cell_far (p := ⟨gb143, 2, none⟩) (by first | (rw [add_block]; exact hn146_2) | (show (Addr.add _ _).block ≠ _; rw [add_block]; exact hn146_2) | exact hn146_2) (.slice A142_2 ((rd_T43 l0 x4_1).f2).length c142_2)).trans hx146_1; replace hx146_2 := (cell_far (p := ⟨gb143, 2, none⟩) (by first | (rw [add_block]; exact hn146_2) | (show (Addr.add _ _).block ≠ _; rw [add_block]; exact hn146_2) | exact hn146_2) (.slice A142_2 ((rd_T43 l0 x4_1).f2).length c142_2)).trans hx146_2; replace hx146_3 := (cell_far (p := ⟨gb143, 2, none⟩) (by first | (rw [add_block]; exact hn146_2) | (show (Addr.add _ _).block ≠ _; rw [add_block]; exact hn146_2) | exact hn146_2) (.slice A142_2 ((rd_T43 l0 x4_1).f2).length c142_2)).trans hx146_3; replace hx146_0 := (cell_far (p := ⟨gb143, 3, none⟩) (by first | (rw [add_block]; exact hn146_3) | (show (Addr.add _ _).block ≠ _; rw [add_block]; exact hn146_3) | exact hn146_3) (.bool ((rd_T43 l0 x4_1).f3))).trans hx146_0; replace hx146_1 := (cell_far (p := ⟨gb143, 3, none⟩) (by first | (rw [add_block]; exact hn146_3) | (show (Addr.add _ _).block ≠ _; rw [add_block]; exact hn146_3) | exact hn146_3) (.bool ((rd_T43 l0 x4_1).f3))).trans hx146_1; replace hx146_2 := (cell_far (p := ⟨gb143, 3, none⟩) (by first | (rw [add_block]; exact hn146_3) | (show (Addr.add _ _).block ≠ _; rw [add_block]; exact hn146_3) | exact hn146_3) (.bool ((rd_T43 l0 x4_1).f3))).trans hx146_2; replace hx146_3 := (cell_far (p := ⟨gb143, 3, none⟩) (by first | (rw [add_block]; exact hn146_3) | (show (Addr.add _ _).block ≠ _; rw [add_block]; exact hn146_3) | exact hn146_3) (.bool ((rd_T43 l0 x4_1).f3))).trans hx146_3; (try have hy146_0 := fun (n_ : Nat) => (show ((((((w12.drewN n_).setCell ⟨gb143, 0, none⟩ (.int .i64 ((rd_T43 l0 x4_1).f0))).setCell ⟨gb143, 1, none⟩ (.int .i64 ((rd_T43 l0 x4_1).f1))).setCell ⟨gb143, 2, none⟩ (.slice A142_2 ((rd_T43 l0 x4_1).f2).length c142_2)).setCell ⟨gb143, 3, none⟩ (.bool ((rd_T43 l0 x4_1).f3)))).cell? _ = some _ from hx146_0)); (try have hy146_1 := fun (n_ : Nat) => (show ((((((w12.drewN n_).setCell ⟨gb143, 0, none⟩ (.int .i64 ((rd_T43 l0 x4_1).f0))).setCell ⟨gb143, 1, none⟩ (.int .i64 ((rd_T43 l0 x4_1).f1))).setCell ⟨gb143, 2, none⟩ (.slice A142_2 ((rd_T43 l0 x4_1).f2).length c142_2)).setCell ⟨gb143, 3, none⟩ (.bool ((rd_T43 l0 x4_1).f3)))).cell? _ = some _ from hx146_1)); (try have hy146_2 := fun (n_ : Nat) => (show ((((((w12.drewN n_).setCell ⟨gb143, 0, none⟩ (.int .i64 ((rd_T43 l0 x4_1).f0))).setCell ⟨gb143, 1, none⟩ (.int .i64 ((rd_T43 l0 x4_1).f1))).setCell ⟨gb143, 2, none⟩ (.slice A142_2 ((rd_T43 l0 x4_1).f2).length c142_2)).setCell ⟨gb143, 3, none⟩ (.bool ((rd_T43 l0 x4_1).f3)))).cell? _ = some _ from hx146_2)); (try have hy146_3 := fun (n_ : Nat) => (show ((((((w12.drewN n_).setCell ⟨gb143, 0, none⟩ (.int .i64 ((rd_T43 l0 x4_1).f0))).setCell ⟨gb143, 1, none⟩ (.int .i64 ((rd_T43 l0 x4_1).f1))).setCell ⟨gb143, 2, none⟩ (.slice A142_2 ((rd_T43 l0 x4_1).f2).length c142_2)).setCell ⟨gb143, 3, none⟩ (.bool ((rd_T43 l0 x4_1).f3)))).cell? _ = some _ from hx146_3)); clear hn146_0; clear hn146_1; clear hn146_2; clear hn146_3; replace p146 := eq_true p146; replace q146 := eq_true q146)
                      go_wp2_with (first | ((with_reducible refine gate_dst (N := 5) rfl ?_); (try (refine gate_guard (by rfl) ?_; dsimp only)); refine box_event ?hg (N := 5) ?hd (cs := #[.int .i64 0, .int .i64 0, .slice none 0 0, .bool false]) (t := 43) ?hr ?_; (case hd => rfl); (case hg => rfl); (case hr => first | (go_simp; done) | (go_simp; rfl)); intro gb143 hg w12 hbox hb; have n0_ := Aside0.mk (below_step (by repeat (first | (with_reducible first | exact HB.out | apply below_alloc | apply pw_below_drewN | apply below_drew1) | exact HB.out)) hb); have n1_ := Aside0.mk (hbox); have n2_ := Aside0.mk ((by rw [hg]; exact (below_size (by repeat (first | (with_reducible first | exact HB.out | apply below_alloc | apply pw_below_drewN | apply below_drew1) | exact HB.out))) : w.heap.size ≤ gb143)); have n3_ := Aside0.mk ((by rw [hg]; exact (below_size (by repeat (first | (with_reducible first | exact HB.out | apply below_alloc | apply pw_below_drewN | apply below_drew1) | exact HB.out))) : w.heap.size ≤ gb143)); clear HB; have HB := n0_; have BK143 := n1_; have GW143 := n2_; have GE143 := n3_; clear n0_ n1_ n2_ n3_; clear hb hbox hg; have hcz13_0 : w12.cell? ⟨gb143, 0, none⟩ = some (.int .i64 0) := (blk_cell BK143.out 0).trans rfl; have hcz13_1 : w12.cell? ⟨gb143, 1, none⟩ = some (.int .i64 0) := (blk_cell BK143.out 1).trans rfl; have hcz13_2 : w12.cell? ⟨gb143, 2, none⟩ = some (.slice none 0 0) := (blk_cell BK143.out 2).trans rfl; have hcz13_3 : w12.cell? ⟨gb143, 3, none⟩ = some (.bool false) := (blk_cell BK143.out 3).trans rfl; have hfz13_0 := blk_frozen BK143.out 0; have hfz13_1 := blk_frozen BK143.out 1; have hfz13_2 := blk_frozen BK143.out 2; have hfz13_3 := blk_frozen BK143.out 3) | (go_at_call 65; (with_reducible refine (spec_l00In.calls ((rd_T43 l0 x4_1).f1) ((rd_T43 l0 x4_1).f0) 60 true _ A6.out).mono ?_); rintro e w' ⟨rfl, ⟨nd, rfl⟩⟩; (try first | exact ⟨rfl, _, World.drewN_drewN _ _ _⟩ | exact ⟨rfl, _, Eq.trans (World.drewN_drewN _ _ _) (congrArg (World.drewN _) (Nat.add_assoc _ _ _))⟩)) | (go_at_call 46; (with_reducible refine (spec_l12Ok.calls k1 _ _ ((rd_T43 l0 x4_1).f2) true _ ?side1 ?side2 A8.out).mono ?_); (case side1 => exact Kd.C_below HR142_2.out (by repeat (first | (with_reducible first | exact HB.out | apply below_alloc | apply pw_below_drewN | apply below_drew1 | refine below_set ?_ GE143.out) | exact HB.out))); (case side2 => exact HC142_2.out); rintro e w' ⟨rfl, ⟨nd, rfl⟩⟩; (try first | exact ⟨rfl, _, World.drewN_drewN _ _ _⟩ | exact ⟨rfl, _, Eq.trans (World.drewN_drewN _ _ _) (congrArg (World.drewN _) (Nat.add_assoc _ _ _))⟩); have p146 : 0 ≤ (0 : Int) := (by omega); have q146 : 0 < (l0.length : Int) := of_decide_eq_true (by first | (with_reducible assumption) | assumption); obtain ⟨ad146, A146_2, c146_2, e146, hx146_0, hx146_1, hx146_2, hx146_3, hl146_2, hi146_2⟩ := at_T43 HR0.out 0 p146 q146; obtain rfl : ad142 = ad146 := (by injection e146); have qi146 : (0 < l0.length) = True := eq_true (by omega); (try rw [show ((0 : Int)).toNat = 0 from rfl] at hx146_0); (try rw [show 0 * 4 = 0 from rfl] at hx146_0); (try rw [Addr.add_zero'] at hx146_0); (try rw [show ((0 : Int)).toNat = 0 from rfl] at hx146_1); (try rw [show 0 * 4 = 0 from rfl] at hx146_1); (try rw [Addr.add_zero'] at hx146_1); (try rw [show ((0 : Int)).toNat = 0 from rfl] at hx146_2); (try rw [show 0 * 4 = 0 from rfl] at hx146_2); (try rw [Addr.add_zero'] at hx146_2); (try rw [show ((0 : Int)).toNat = 0 from rfl] at hx146_3); (try rw [show 0 * 4 = 0 from rfl] at hx146_3); (try rw [Addr.add_zero'] at hx146_3); have hn146_0 : ad142.block ≠ gb143 := Nat.ne_of_lt (Nat.lt_of_lt_of_le (by have := World.block_lt_of_cell? _ _ hx146_0; first | rwa [add_block] at this | exact this) GW143.out); have hn146_1 : ad142.block ≠ gb143 := Nat.ne_of_lt (Nat.lt_of_lt_of_le (by have := World.block_lt_of_cell? _ _ hx146_0; first | rwa [add_block] at this | exact this) GW143.out); have hn146_2 : ad142.block ≠ gb143 := Nat.ne_of_lt (Nat.lt_of_lt_of_le (by have := World.block_lt_of_cell? _ _ hx146_0; first | rwa [add_block] at this | exact this) GW143.out); have hn146_3 : ad142.block ≠ gb143 := Nat.ne_of_lt (Nat.lt_of_lt_of_le (by have := World.block_lt_of_cell? _ _ hx146_0; first | rwa [add_block] at this | exact this) GW143.out); replace hx146_0 := (HB.out.cell (World.block_lt_of_cell? w _ hx146_0)).trans hx146_0; replace hx146_1 := (HB.out.cell (World.block_lt_of_cell? w _ hx146_1)).trans hx146_1; replace hx146_2 := (HB.out.cell (World.block_lt_of_cell? w _ hx146_2)).trans hx146_2; replace hx146_3 := (HB.out.cell (World.block_lt_of_cell? w _ hx146_3)).trans hx146_3; have HR146_2 := Aside0.mk hi146_2; have HC146_2 := Aside0.mk hl146_2; clear hi146_2 hl146_2; replace hx146_0 := (cell_far (p := ⟨gb143, 0, none⟩) (by first | (rw [add_block]; exact hn146_0) | (show (Addr.add _ _).block ≠ _; rw [add_block]; exact hn146_0) | exact hn146_0) (.int .i64 ((rd_T43 l0 x4_1).f0))).trans hx146_0; replace hx146_1 := (cell_far (p := ⟨gb143, 0, none⟩) (by first | (rw [add_block]; exact hn146_0) | (show (Addr.add _ _).block ≠ _; rw [add_block]; exact hn146_0) | exact hn146_0) (.int .i64 ((rd_T43 l0 x4_1).f0))).trans hx146_1; replace hx146_2 := (cell_far (p := ⟨gb143, 0, none⟩) (by first | (rw [add_block]; exact hn146_0) | (show (Addr.add _ _).block ≠ _; rw [add_block]; exact hn146_0) | exact hn146_0) (.int .i64 ((rd_T43 l0 x4_1).f0))).trans hx146_2; replace hx146_3 := (cell_far (p := ⟨gb143, 0, none⟩) (by first | (rw [add_block]; exact hn146_0) | (show (Addr.add _ _).block ≠ _; rw [add_block]; exact hn146_0) | exact hn146_0) (.int .i64 ((rd_T43 l0 x4_1).f0))).trans hx146_3; replace hx146_0 := (cell_far (p := ⟨gb143, 1, none⟩) (by first | (rw [add_block]; exact hn146_1) | (show (Addr.add _ _).block ≠ _; rw [add_block]; exact hn146_1) | exact hn146_1) (.int .i64 ((rd_T43 l0 x4_1).f1))).trans hx146_0; replace hx146_1 := (cell_far (p := ⟨gb143, 1, none⟩) (by first | (rw [add_block]; exact hn146_1) | (show (Addr.add _ _).block ≠ _; rw [add_block]; exact hn146_1) | exact hn146_1) (.int .i64 ((rd_T43 l0 x4_1).f1))).trans hx146_1; replace hx146_2 := (cell_far (p := ⟨gb143, 1, none⟩) (by first | (rw [add_block]; exact hn146_1) | (show (Addr.add _ _).block ≠ _; rw [add_block]; exact hn146_1) | exact hn146_1) (.int .i64 ((rd_T43 l0 x4_1).f1))).trans hx146_2; replace hx146_3 := (cell_far (p := ⟨gb143, 1, none⟩) (by first | (rw [add_block]; exact hn146_1) | (show (Addr.add _ _).block ≠ _; rw [add_block]; exact hn146_1) | exact hn146_1) (.int .i64 ((rd_T43 l0 x4_1).f1))).trans hx146_3; replace hx146_0 := (cell_far (p := ⟨gb143, 2, none⟩) (by first | (rw [add_block]; exact hn146_2) | (show (Addr.add _ _).block ≠ _; rw [add_block]; exact hn146_2) | exact hn146_2) (.slice A142_2 ((rd_T43 l0 x4_1).f2).length c142_2)).trans hx146_0; replace hx146_1 := (cell_far (p := ⟨gb143, 2, none⟩) (by first | (rw [add_block]; exact hn146_2) | (show (Addr.add _ _).block ≠ _; rw [add_block]; exact hn146_2) | exact hn146_2) (.slice A142_2 ((rd_T43 l0 x4_1).f2).length c142_2)).trans hx146_1; replace hx146_2 := (cell_far (p := ⟨gb143, 2, none⟩) (by first | (rw [add_block]; exact hn146_2) | (show (Addr.add _ _).block ≠ _; rw [add_block]; exact hn146_2) | exact hn146_2) (.slice A142_2 ((rd_T43 l0 x4_1).f2).length c142_2)).trans hx146_2; replace hx146_3 := (cell_far (p := ⟨gb143, 2, none⟩) (by first | (rw [add_block]; exact hn146_2) | (show (Addr.add _ _).block ≠ _; rw [add_block]; exact hn146_2) | exact hn146_2) (.slice A142_2 ((rd_T43 l0 x4_1).f2).length c142_2)).trans hx146_3; replace hx146_0 := (cell_far (p := ⟨gb143, 3, none⟩) (by first | (rw [add_block]; exact hn146_3) | (show (Addr.add _ _).block ≠ _; rw [add_block]; exact hn146_3) | exact hn146_3) (.bool ((rd_T43 l0 x4_1).f3))).trans hx146_0; replace hx146_1 := (cell_far (p := ⟨gb143, 3, none⟩) (by first | (rw [add_block]; exact hn146_3) | (show (Addr.add _ _).block ≠ _; rw [add_block]; exact hn146_3) | exact hn146_3) (.bool ((rd_T43 l0 x4_1).f3))).trans hx146_1; replace hx146_2 := (cell_far (p := ⟨gb143, 3, none⟩) (by first | (rw [add_block]; exact hn146_3) | (show (Addr.add _ _).block ≠ _; rw [add_block]; exact hn146_3) | exact hn146_3) (.bool ((rd_T43 l0 x4_1).f3))).trans hx146_2; replace hx146_3 := (cell_far (p := ⟨gb143, 3, none⟩) (by first | (rw [add_block]; exact hn146_3) | (show (Addr.add _ _).block ≠ _; rw [add_block]; exact hn146_3) | exact hn146_3) (.bool ((rd_T43 l0 x4_1).f3))).trans hx146_3; (try have hy146_0 := fun (n_ : Nat) => (show ((((((w12.drewN n_).setCell ⟨gb143, 0, none⟩ (.int .i64 ((rd_T43 l0 x4_1).f0))).setCell ⟨gb143, 1, none⟩ (.int .i64 ((rd_T43 l0 x4_1).f1))).setCell ⟨gb143, 2, none⟩ (.slice A142_2 ((rd_T43 l0 x4_1).f2).length c142_2)).setCell ⟨gb143, 3, none⟩ (.bool ((rd_T43 l0 x4_1).f3)))).cell? _ = some _ from hx146_0)); (try have hy146_1 := fun (n_ : Nat) => (show ((((((w12.drewN n_).setCell ⟨gb143, 0, none⟩ (.int .i64 ((rd_T43 l0 x4_1).f0))).setCell ⟨gb143, 1, none⟩ (.int .i64 ((rd_T43 l0 x4_1).f1))).setCell ⟨gb143, 2, none⟩ (.slice A142_2 ((rd_T43 l0 x4_1).f2).length c142_2)).setCell ⟨gb143, 3, none⟩ (.bool ((rd_T43 l0 x4_1).f3)))).cell? _ = some _ from hx146_1)); (try have hy146_2 := fun (n_ : Nat) => (show ((((((w12.drewN n_).setCell ⟨gb143, 0, none⟩ (.int .i64 ((rd_T43 l0 x4_1).f0))).setCell ⟨gb143, 1, none⟩ (.int .i64 ((rd_T43 l0 x4_1).f1))).setCell ⟨gb143, 2, none⟩ (.slice A142_2 ((rd_T43 l0 x4_1).f2).length c142_2)).setCell ⟨gb143, 3, none⟩ (.bool ((rd_T43 l0 x4_1).f3)))).cell? _ = some _ from hx146_2)); (try have hy146_3 := fun (n_ : Nat) => (show ((((((w12.drewN n_).setCell ⟨gb143, 0, none⟩ (.int .i64 ((rd_T43 l0 x4_1).f0))).setCell ⟨gb143, 1, none⟩ (.int .i64 ((rd_T43 l0 x4_1).f1))).setCell ⟨gb143, 2, none⟩ (.slice A142_2 ((rd_T43 l0 x4_1).f2).length c142_2)).setCell ⟨gb143, 3, none⟩ (.bool ((rd_T43 l0 x4_1).f3)))).cell? _ = some _ from hx146_3)); clear hn146_0; clear hn146_1; clear hn146_2; clear hn146_3; replace p146 := eq_true p146; replace q146 := eq_true q146))
                      first | (have hz_ := hy146_3; clear hz_) | (have p146 : 0 ≤ (0 : Int) := (by omega); have q146 : 0 < (l0.length : Int) := of_decide_eq_true (by first | (with_reducible assumption) | assumption); obtain ⟨ad146, A146_2, c146_2, e146, hx146_0, hx146_1, hx146_2, hx146_3, hl146_2, hi146_2⟩ := at_T43 HR0.out 0 p146 q146; obtain rfl : ad142 = ad146 := (by injection e146); have qi146 : (0 < l0.length) = True := eq_true (by omega); (try rw [show ((0 : Int)).toNat = 0 from rfl] at hx146_0); (try rw [show 0 * 4 = 0 from rfl] at hx146_0); (try rw [Addr.add_zero'] at hx146_0); (try rw [show ((0 : Int)).toNat = 0 from rfl] at hx146_1); (try rw [show 0 * 4 = 0 from rfl] at hx146_1); (try rw [Addr.add_zero'] at hx146_1); (try rw [show ((0 : Int)).toNat = 0 from rfl] at hx146_2); (try rw [show 0 * 4 = 0 from rfl] at hx146_2); (try rw [Addr.add_zero'] at hx146_2); (try rw [show ((0 : Int)).toNat = 0 from rfl] at hx146_3); (try rw [show 0 * 4 = 0 from rfl] at hx146_3); (try rw [Addr.add_zero'] at hx146_3); have hn146_0 : ad142.block ≠ gb143 := Nat.ne_of_lt (Nat.lt_of_lt_of_le (by have := World.block_lt_of_cell? _ _ hx146_0; first | rwa [add_block] at this | exact this) GW143.out); have hn146_1 : ad142.block ≠ gb143 := Nat.ne_of_lt (Nat.lt_of_lt_of_le (by have := World.block_lt_of_cell? _ _ hx146_0; first | rwa [add_block] at this | exact this) GW143.out); have hn146_2 : ad142.block ≠ gb143 := Nat.ne_of_lt (Nat.lt_of_lt_of_le (by have := World.block_lt_of_cell? _ _ hx146_0; first | rwa [add_block] at this | exact this) GW143.out); have hn146_3 : ad142.block ≠ gb143 := Nat.ne_of_lt (Nat.lt_of_lt_of_le (by have := World.block_lt_of_cell? _ _ hx146_0; first | rwa [add_block] at this | exact this) GW143.out); replace hx146_0 := (HB.out.cell (World.block_lt_of_cell? w _ hx146_0)).trans hx146_0; replace hx146_1 := (HB.out.cell (World.block_lt_of_cell? w _ hx146_1)).trans hx146_1; replace hx146_2 := (HB.out.cell (World.block_lt_of_cell? w _ hx146_2)).trans hx146_2; replace hx146_3 := (HB.out.cell (World.block_lt_of_cell? w _ hx146_3)).trans hx146_3; have HR146_2 := Aside0.mk hi146_2; have HC146_2 := Aside0.mk hl146_2; clear hi146_2 hl146_2; replace hx146_0 := (cell_far (p := ⟨gb143, 0, none⟩) (by first | (rw [add_block]; exact hn146_0) | (show (Addr.add _ _).block ≠ _; rw [add_block]; exact hn146_0) | exact hn146_0) (.int .i64 ((rd_T43 l0 x4_1).f0))).trans hx146_0; replace hx146_1 := (cell_far (p := ⟨gb143, 0, none⟩) (by first | (rw [add_block]; exact hn146_0) | (show (Addr.add _ _).block ≠ _; rw [add_block]; exact hn146_0) | exact hn146_0) (.int .i64 ((rd_T43 l0 x4_1).f0))).trans hx146_1; replace hx146_2 := (cell_far (p := ⟨gb143, 0, none⟩) (by first | (rw [add_block]; exact hn146_0) | (show (Addr.add _ _).block ≠ _; rw [add_block]; exact hn146_0) | exact hn146_0) (.int .i64 ((rd_T43 l0 x4_1).f0))).trans hx146_2; replace hx146_3 := (cell_far (p := ⟨gb143, 0, none⟩) (by first | (rw [add_block]; exact hn146_0) | (show (Addr.add _ _).block ≠ _; rw [add_block]; exact hn146_0) | exact hn146_0) (.int .i64 ((rd_T43 l0 x4_1).f0))).trans hx146_3; replace hx146_0 := (cell_far (p := ⟨gb143, 1, none⟩) (by first | (rw [add_block]; exact hn146_1) | (show (Addr.add _ _).block ≠ _; rw [add_block]; exact hn146_1) | exact hn146_1) (.int .i64 ((rd_T43 l0 x4_1).f1))).trans hx146_0; replace hx146_1 := (cell_far (p := ⟨gb143, 1, none⟩) (by first | (rw [add_block]; exact hn146_1) | (show (Addr.add _ _).block ≠ _; rw [add_block]; exact hn146_1) | exact hn146_1) (.int .i64 ((rd_T43 l0 x4_1).f1))).trans hx146_1; replace hx146_2 := (cell_far (p := ⟨gb143, 1, none⟩) (by first | (rw [add_block]; exact hn146_1) | (show (Addr.add _ _).block ≠ _; rw [add_block]; exact hn146_1) | exact hn146_1) (.int .i64 ((rd_T43 l0 x4_1).f1))).trans hx146_2; replace hx146_3 := (cell_far (p := ⟨gb143, 1, none⟩) (by first | (rw [add_block]; exact hn146_1) | (show (Addr.add _ _).block ≠ _; rw [add_block]; exact hn146_1) | exact hn146_1) (.int .i64 ((rd_T43 l0 x4_1).f1))).trans hx146_3; replace hx146_0 := (cell_far (p := ⟨gb143, 2, none⟩) (by first | (rw [add_block]; exact hn146_2) | (show (Addr.add _ _).block ≠ _; rw [add_block]; exact hn146_2) | exact hn146_2) (.slice A142_2 ((rd_T43 l0 x4_1).f2).length c142_2)).trans hx146_0; replace hx146_1 := (cell_far (p := ⟨gb143, 2, none⟩) (by first | (rw [add_block]; exact hn146_2) | (show (Addr.add _ _).block ≠ _; rw [add_block]; exact hn146_2) | exact hn146_2) (.slice A142_2 ((rd_T43 l0 x4_1).f2).length c142_2)).trans hx146_1; replace hx146_2 := (cell_far (p := ⟨gb143, 2, none⟩) (by first | (rw [add_block]; exact hn146_2) | (show (Addr.add _ _).block ≠ _; rw [add_block]; exact hn146_2) | exact hn146_2) (.slice A142_2 ((rd_T43 l0 x4_1).f2).length c142_2)).trans hx146_2; replace hx146_3 := (cell_far (p := ⟨gb143, 2, none⟩) (by first | (rw [add_block]; exact hn146_2) | (show (Addr.add _ _).block ≠ _; rw [add_block]; exact hn146_2) | exact hn146_2) (.slice A142_2 ((rd_T43 l0 x4_1).f2).length c142_2)).trans hx146_3; replace hx146_0 := (cell_far (p := ⟨gb143, 3, none⟩) (by first | (rw [add_block]; exact hn146_3) | (show (Addr.add _ _).block ≠ _; rw [add_block]; exact hn146_3) | exact hn146_3) (.bool ((rd_T43 l0 x4_1).f3))).trans hx146_0; replace hx146_1 := (cell_far (p := ⟨gb143, 3, none⟩) (by first | (rw [add_block]; exact hn146_3) | (show (Addr.add _ _).block ≠ _; rw [add_block]; exact hn146_3) | exact hn146_3) (.bool ((rd_T43 l0 x4_1).f3))).trans hx146_1; replace hx146_2 := (cell_far (p := ⟨gb143, 3, none⟩) (by first | (rw [add_block]; exact hn146_3) | (show (Addr.add _ _).block ≠ _; rw [add_block]; exact hn146_3) | exact hn146_3) (.bool ((rd_T43 l0 x4_1).f3))).trans hx146_2; replace hx146_3 := (cell_far (p := ⟨gb143, 3, none⟩) (by first | (rw [add_block]; exact hn146_3) | (show (Addr.add _ _).block ≠ _; rw [add_block]; exact hn146_3) | exact hn146_3) (.bool ((rd_T43 l0 x4_1).f3))).trans hx146_3; (try have hy146_0 := fun (n_ : Nat) => (show ((((((w12.drewN n_).setCell ⟨gb143, 0, none⟩ (.int .i64 ((rd_T43 l0 x4_1).f0))).setCell ⟨gb143, 1, none⟩ (.int .i64 ((rd_T43 l0 x4_1).f1))).setCell ⟨gb143, 2, none⟩ (.slice A142_2 ((rd_T43 l0 x4_1).f2).length c142_2)).setCell ⟨gb143, 3, none⟩ (.bool ((rd_T43 l0 x4_1).f3)))).cell? _ = some _ from hx146_0)); (try have hy146_1 := fun (n_ : Nat) => (show ((((((w12.drewN n_).setCell ⟨gb143, 0, none⟩ (.int .i64 ((rd_T43 l0 x4_1).f0))).setCell ⟨gb143, 1, none⟩ (.int .i64 ((rd_T43 l0 x4_1).f1))).setCell ⟨gb143, 2, none⟩ (.slice A142_2 ((rd_T43 l0 x4_1).f2).length c142_2)).setCell ⟨gb143, 3, none⟩ (.bool ((rd_T43 l0 x4_1).f3)))).cell? _ = some _ from hx146_1)); (try have hy146_2 := fun (n_ : Nat) => (show ((((((w12.drewN n_).setCell ⟨gb143, 0, none⟩ (.int .i64 ((rd_T43 l0 x4_1).f0))).setCell ⟨gb143, 1, none⟩ (.int .i64 ((rd_T43 l0 x4_1).f1))).setCell ⟨gb143, 2, none⟩ (.slice A142_2 ((rd_T43 l0 x4_1).f2).length c142_2)).setCell ⟨gb143, 3, none⟩ (.bool ((rd_T43 l0 x4_1).f3)))).cell? _ = some _ from hx146_2)); (try have hy146_3 := fun (n_ : Nat) => (show ((((((w12.drewN n_).setCell ⟨gb143, 0, none⟩ (.int .i64 ((rd_T43 l0 x4_1).f0))).setCell ⟨gb143, 1, none⟩ (.int .i64 ((rd_T43 l0 x4_1).f1))).setCell ⟨gb143, 2, none⟩ (.slice A142_2 ((rd_T43 l0 x4_1).f2).length c142_2)).setCell ⟨gb143, 3, none⟩ (.bool ((rd_T43 l0 x4_1).f3)))).cell? _ = some _ from hx146_3)); clear hn146_0; clear hn146_1; clear hn146_2; clear hn146_3; replace p146 := eq_true p146; replace q146 := eq_true q146) | skip
                      repeat (go_quiet (first | ((with_reducible refine gate_dst (N := 5) rfl ?_); (try (refine gate_guard (by rfl) ?_; dsimp only)); refine box_event ?hg (N := 5) ?hd (cs := #[.int .i64 0, .int .i64 0, .slice none 0 0, .bool false]) (t := 43) ?hr ?_; (case hd => rfl); (case hg => rfl); (case hr => first | (go_simp; done) | (go_simp; rfl)); intro gb143 hg w12 hbox hb; have n0_ := Aside0.mk (below_step (by repeat (first | (with_reducible first | exact HB.out | apply below_alloc | apply pw_below_drewN | apply below_drew1) | exact HB.out)) hb); have n1_ := Aside0.mk (hbox); have n2_ := Aside0.mk ((by rw [hg]; exact (below_size (by repeat (first | (with_reducible first | exact HB.out | apply below_alloc | apply pw_below_drewN | apply below_drew1) | exact HB.out))) : w.heap.size ≤ gb143)); have n3_ := Aside0.mk ((by rw [hg]; exact (below_size (by repeat (first | (with_reducible first | exact HB.out | apply below_alloc | apply pw_below_drewN | apply below_drew1) | exact HB.out))) : w.heap.size ≤ gb143)); clear HB; have HB := n0_; have BK143 := n1_; have GW143 := n2_; have GE143 := n3_; clear n0_ n1_ n2_ n3_; clear hb hbox hg; have hcz13_0 : w12.cell? ⟨gb143, 0, none⟩ = some (.int .i64 0) := (blk_cell BK143.out 0).trans rfl; have hcz13_1 : w12.cell? ⟨gb143, 1, none⟩ = some (.int .i64 0) := (blk_cell BK143.out 1).trans rfl; have hcz13_2 : w12.cell? ⟨gb143, 2, none⟩ = some (.slice none 0 0) := (blk_cell BK143.out 2).trans rfl; have hcz13_3 : w12.cell? ⟨gb143, 3, none⟩ = some (.bool false) := (blk_cell BK143.out 3).trans rfl; have hfz13_0 := blk_frozen BK143.out 0; have hfz13_1 := blk_frozen BK143.out 1; have hfz13_2 := blk_frozen BK143.out 2; have hfz13_3 := blk_frozen BK143.out 3) | (go_at_call 65; (with_reducible refine (spec_l00In.calls ((rd_T43 l0 x4_1).f1) ((rd_T43 l0 x4_1).f0) 60 true _ A6.out).mono ?_); rintro e w' ⟨rfl, ⟨nd, rfl⟩⟩; (try first | exact ⟨rfl, _, World.drewN_drewN _ _ _⟩ | exact ⟨rfl, _, Eq.trans (World.drewN_drewN _ _ _) (congrArg (World.drewN _) (Nat.add_assoc _ _ _))⟩)) | (go_at_call 46; (with_reducible refine (spec_l12Ok.calls k1 _ _ ((rd_T43 l0 x4_1).f2) true _ ?side1 ?side2 A8.out).mono ?_); (case side1 => exact Kd.C_below HR142_2.out (by repeat (first | (with_reducible first | exact HB.out | apply below_alloc | apply pw_below_drewN | apply below_drew1 | refine below_set ?_ GE143.out) | exact HB.out))); (case side2 => exact HC142_2.out); rintro e w' ⟨rfl, ⟨nd, rfl⟩⟩; (try first | exact ⟨rfl, _, World.drewN_drewN _ _ _⟩ | exact ⟨rfl, _, Eq.trans (World.drewN_drewN _ _ _) (congrArg (World.drewN _) (Nat.add_assoc _ _ _))⟩))); try go_wp2_with (first | ((with_reducible refine gate_dst (N := 5) rfl ?_); (try (refine gate_guard (by rfl) ?_; dsimp only)); refine box_event ?hg (N := 5) ?hd (cs := #[.int .i64 0, .int .i64 0, .slice none 0 0, .bool false]) (t := 43) ?hr ?_; (case hd => rfl); (case hg => rfl); (case hr => first | (go_simp; done) | (go_simp; rfl)); intro gb143 hg w12 hbox hb; have n0_ := Aside0.mk (below_step (by repeat (first | (with_reducible first | exact HB.out | apply below_alloc | apply pw_below_drewN | apply below_drew1) | exact HB.out)) hb); have n1_ := Aside0.mk (hbox); have n2_ := Aside0.mk ((by rw [hg]; exact (below_size (by repeat (first | (with_reducible first | exact HB.out | apply below_alloc | apply pw_below_drewN | apply below_drew1) | exact HB.out))) : w.heap.size ≤ gb143)); have n3_ := Aside0.mk ((by rw [hg]; exact (below_size (by repeat (first | (with_reducible first | exact HB.out | apply below_alloc | apply pw_below_drewN | apply below_drew1) | exact HB.out))) : w.heap.size ≤ gb143)); clear HB; have HB := n0_; have BK143 := n1_; have GW143 := n2_; have GE143 := n3_; clear n0_ n1_ n2_ n3_; clear hb hbox hg; have hcz13_0 : w12.cell? ⟨gb143, 0, none⟩ = some (.int .i64 0) := (blk_cell BK143.out 0).trans rfl; have hcz13_1 : w12.cell? ⟨gb143, 1, none⟩ = some (.int .i64 0) := (blk_cell BK143.out 1).trans rfl; have hcz13_2 : w12.cell? ⟨gb143, 2, none⟩ = some (.slice none 0 0) := (blk_cell BK143.out 2).trans rfl; have hcz13_3 : w12.cell? ⟨gb143, 3, none⟩ = some (.bool false) := (blk_cell BK143.out 3).trans rfl; have hfz13_0 := blk_frozen BK143.out 0; have hfz13_1 := blk_frozen BK143.out 1; have hfz13_2 := blk_frozen BK143.out 2; have hfz13_3 := blk_frozen BK143.out 3) | (go_at_call 65; (with_reducible refine (spec_l00In.calls ((rd_T43 l0 x4_1).f1) ((rd_T43 l0 x4_1).f0) 60 true _ A6.out).mono ?_); rintro e w' ⟨rfl, ⟨nd, rfl⟩⟩; (try first | exact ⟨rfl, _, World.drewN_drewN _ _ _⟩ | exact ⟨rfl, _, Eq.trans (World.drewN_drewN _ _ _) (congrArg (World.drewN _) (Nat.add_assoc _ _ _))⟩)) | (go_at_call 46; (with_reducible refine (spec_l12Ok.calls k1 _ _ ((rd_T43 l0 x4_1).f2) true _ ?side1 ?side2 A8.out).mono ?_); (case side1 => exact Kd.C_below HR142_2.out (by repeat (first | (with_reducible first | exact HB.out | apply below_alloc | apply pw_below_drewN | apply below_drew1 | refine below_set ?_ GE143.out) | exact HB.out))); (case side2 => exact HC142_2.out); rintro e w' ⟨rfl, ⟨nd, rfl⟩⟩; (try first | exact ⟨rfl, _, World.drewN_drewN _ _ _⟩ | exact ⟨rfl, _, Eq.trans (World.drewN_drewN _ _ _) (congrArg (World.drewN _) (Nat.add_assoc _ _ _))⟩); have p146 : 0 ≤ (0 : Int) := (by omega); have q146 : 0 < (l0.length : Int) := of_decide_eq_true (by first | (with_reducible assumption) | assumption); obtain ⟨ad146, A146_2, c146_2, e146, hx146_0, hx146_1, hx146_2, hx146_3, hl146_2, hi146_2⟩ := at_T43 HR0.out 0 p146 q146; obtain rfl : ad142 = ad146 := (by injection e146); have qi146 : (0 < l0.length) = True := eq_true (by omega); (try rw [show ((0 : Int)).toNat = 0 from rfl] at hx146_0); (try rw [show 0 * 4 = 0 from rfl] at hx146_0); (try rw [Addr.add_zero'] at hx146_0); (try rw [show ((0 : Int)).toNat = 0 from rfl] at hx146_1); (try rw [show 0 * 4 = 0 from rfl] at hx146_1); (try rw [Addr.add_zero'] at hx146_1); (try rw [show ((0 : Int)).toNat = 0 from rfl] at hx146_2); (try rw [show 0 * 4 = 0 from rfl] at hx146_2); (try rw [Addr.add_zero'] at hx146_2); (try rw [show ((0 : Int)).toNat = 0 from rfl] at hx146_3); (try rw [show 0 * 4 = 0 from rfl] at hx146_3); (try rw [Addr.add_zero'] at hx146_3); have hn146_0 : ad142.block ≠ gb143 := Nat.ne_of_lt (Nat.lt_of_lt_of_le (by have := World.block_lt_of_cell? _ _ hx146_0; first | rwa [add_block] at this | exact this) GW143.out); have hn146_1 : ad142.block ≠ gb143 := Nat.ne_of_lt (Nat.lt_of_lt_of_le (by have := World.block_lt_of_cell? _ _ hx146_0; first | rwa [add_block] at this | exact this) GW143.out); have hn146_2 : ad142.block ≠ gb143 := Nat.ne_of_lt (Nat.lt_of_lt_of_le (by have := World.block_lt_of_cell? _ _ hx146_0; first | rwa [add_block] at this | exact this) GW143.out); have hn146_3 : ad142.block ≠ gb143 := Nat.ne_of_lt (Nat.lt_of_lt_of_le (by have := World.block_lt_of_cell? _ _ hx146_0; first | rwa [add_block] at this | exact this) GW143.out); replace hx146_0 := (HB.out.cell (World.block_lt_of_cell? w _ hx146_0)).trans hx146_0; replace hx146_1 := (HB.out.cell (World.block_lt_of_cell? w _ hx146_1)).trans hx146_1; replace hx146_2 := (HB.out.cell (World.block_lt_of_cell? w _ hx146_2)).trans hx146_2; replace hx146_3 := (HB.out.cell (World.block_lt_of_cell? w _ hx146_3)).trans hx146_3; have HR146_2 := Aside0.mk hi146_2; have HC146_2 := Aside0.mk hl146_2; clear hi146_2 hl146_2; replace hx146_0 := (cell_far (p := ⟨gb143, 0, none⟩) (by first | (rw [add_block]; exact hn146_0) | (show (Addr.add _ _).block ≠ _; rw [add_block]; exact hn146_0) | exact hn146_0) (.int .i64 ((rd_T43 l0 x4_1).f0))).trans hx146_0; replace hx146_1 := (cell_far (p := ⟨gb143, 0, none⟩) (by first | (rw [add_block]; exact hn146_0) | (show (Addr.add _ _).block ≠ _; rw [add_block]; exact hn146_0) | exact hn146_0) (.int .i64 ((rd_T43 l0 x4_1).f0))).trans hx146_1; replace hx146_2 := (cell_far (p := ⟨gb143, 0, none⟩) (by first | (rw [add_block]; exact hn146_0) | (show (Addr.add _ _).block ≠ _; rw [add_block]; exact hn146_0) | exact hn146_0) (.int .i64 ((rd_T43 l0 x4_1).f0))).trans hx146_2; replace hx146_3 := (cell_far (p := ⟨gb143, 0, none⟩) (by first | (rw [add_block]; exact hn146_0) | (show (Addr.add _ _).block ≠ _; rw [add_block]; exact hn146_0) | exact hn146_0) (.int .i64 ((rd_T43 l0 x4_1).f0))).trans hx146_3; replace hx146_0 := (cell_far (p := ⟨gb143, 1, none⟩) (by first | (rw [add_block]; exact hn146_1) | (show (Addr.add _ _).block ≠ _; rw [add_block]; exact hn146_1) | exact hn146_1) (.int .i64 ((rd_T43 l0 x4_1).f1))).trans hx146_0; replace hx146_1 := (cell_far (p := ⟨gb143, 1, none⟩) (by first | (rw [add_block]; exact hn146_1) | (show (Addr.add _ _).block ≠ _; rw [add_block]; exact hn146_1) | exact hn146_1) (.int .i64 ((rd_T43 l0 x4_1).f1))).trans hx146_1; replace hx146_2 := (cell_far (p := ⟨gb143, 1, none⟩) (by first | (rw [add_block]; exact hn146_1) | (show (Addr.add _ _).block ≠ _; rw [add_block]; exact hn146_1) | exact hn146_1) (.int .i64 ((rd_T43 l0 x4_1).f1))).trans hx146_2; replace hx146_3 := (cell_far (p := ⟨gb143, 1, none⟩) (by first | (rw [add_block]; exact hn146_1) | (show (Addr.add _ _).block ≠ _; rw [add_block]; exact hn146_1) | exact hn146_1) (.int .i64 ((rd_T43 l0 x4_1).f1))).trans hx146_3; replace hx146_0 := (cell_far (p := ⟨gb143, 2, none⟩) (by first | (rw [add_block]; exact hn146_2) | (show (Addr.add _ _).block ≠ _; rw [add_block]; exact hn146_2) | exact hn146_2) (.slice A142_2 ((rd_T43 l0 x4_1).f2).length c142_2)).trans hx146_0; replace hx146_1 := (cell_far (p := ⟨gb143, 2, none⟩) (by first | (rw [add_block]; exact hn146_2) | (show (Addr.add _ _).block ≠ _; rw [add_block]; exact hn146_2) | exact hn146_2) (.slice A142_2 ((rd_T43 l0 x4_1).f2).length c142_2)).trans hx146_1; replace hx146_2 := (cell_far (p := ⟨gb143, 2, none⟩) (by first | (rw [add_block]; exact hn146_2) | (show (Addr.add _ _).block ≠ _; rw [add_block]; exact hn146_2) | exact hn146_2) (.slice A142_2 ((rd_T43 l0 x4_1).f2).length c142_2)).trans hx146_2; replace hx146_3 := (cell_far (p := ⟨gb143, 2, none⟩) (by first | (rw [add_block]; exact hn146_2) | (show (Addr.add _ _).block ≠ _; rw [add_block]; exact hn146_2) | exact hn146_2) (.slice A142_2 ((rd_T43 l0 x4_1).f2).length c142_2)).trans hx146_3; replace hx146_0 := (cell_far (p := ⟨gb143, 3, none⟩) (by first | (rw [add_block]; exact hn146_3) | (show (Addr.add _ _).block ≠ _; rw [add_block]; exact hn146_3) | exact hn146_3) (.bool ((rd_T43 l0 x4_1).f3))).trans hx146_0; replace hx146_1 := (cell_far (p := ⟨gb143, 3, none⟩) (by first | (rw [add_block]; exact hn146_3) | (show (Addr.add _ _).block ≠ _; rw [add_block]; exact hn146_3) | exact hn146_3) (.bool ((rd_T43 l0 x4_1).f3))).trans hx146_1; replace hx146_2 := (cell_far (p := ⟨gb143, 3, none⟩) (by first | (rw [add_block]; exact hn146_3) | (show (Addr.add _ _).block ≠ _; rw [add_block]; exact hn146_3) | exact hn146_3) (.bool ((rd_T43 l0 x4_1).f3))).trans hx146_2; replace hx146_3 := (cell_far (p := ⟨gb143, 3, none⟩) (by first | (rw [add_block]; exact hn146_3) | (show (Addr.add _ _).block ≠ _; rw [add_block]; exact hn146_3) | exact hn146_3) (.bool ((rd_T43 l0 x4_1).f3))).trans hx146_3; (try have hy146_0 := fun (n_ : Nat) => (show ((((((w12.drewN n_).setCell ⟨gb143, 0, none⟩ (.int .i64 ((rd_T43 l0 x4_1).f0))).setCell ⟨gb143, 1, none⟩ (.int .i64 ((rd_T43 l0 x4_1).f1))).setCell ⟨gb143, 2, none⟩ (.slice A142_2 ((rd_T43 l0 x4_1).f2).length c142_2)).setCell ⟨gb143, 3, none⟩ (.bool ((rd_T43 l0 x4_1).f3)))).cell? _ = some _ from hx146_0)); (try have hy146_1 := fun (n_ : Nat) => (show ((((((w12.drewN n_).setCell ⟨gb143, 0, none⟩ (.int .i64 ((rd_T43 l0 x4_1).f0))).setCell ⟨gb143, 1, none⟩ (.int .i64 ((rd_T43 l0 x4_1).f1))).setCell ⟨gb143, 2, none⟩ (.slice A142_2 ((rd_T43 l0 x4_1).f2).length c142_2)).setCell ⟨gb143, 3, none⟩ (.bool ((rd_T43 l0 x4_1).f3)))).cell? _ = some _ from hx146_1)); (try have hy146_2 := fun (n_ : Nat) => (show ((((((w12.drewN n_).setCell ⟨gb143, 0, none⟩ (.int .i64 ((rd_T43 l0 x4_1).f0))).setCell ⟨gb143, 1, none⟩ (.int .i64 ((rd_T43 l0 x4_1).f1))).setCell ⟨gb143, 2, none⟩ (.slice A142_2 ((rd_T43 l0 x4_1).f2).length c142_2)).setCell ⟨gb143, 3, none⟩ (.bool ((rd_T43 l0 x4_1).f3)))).cell? _ = some _ from hx146_2)); (try have hy146_3 := fun (n_ : Nat) => (show ((((((w12.drewN n_).setCell ⟨gb143, 0, none⟩ (.int .i64 ((rd_T43 l0 x4_1).f0))).setCell ⟨gb143, 1, none⟩ (.int .i64 ((rd_T43 l0 x4_1).f1))).setCell ⟨gb143, 2, none⟩ (.slice A142_2 ((rd_T43 l0 x4_1).f2).length c142_2)).setCell ⟨gb143, 3, none⟩ (.bool ((rd_T43 l0 x4_1).f3)))).cell? _ = some _ from hx146_3)); clear hn146_0; clear hn146_1; clear hn146_2; clear hn146_3; replace p146 := eq_true p146; replace q146 := eq_true q146)))
                      go_roundg k1
                      case measure => have := HK1.out; omega
                      case rel => exact ⟨(wrap64 (((rd_T43 l0 x4_1).f1) + 1)), (wrap64 (x4_1 + 1)), (by first | rfl | (simp; done) | (simp [*]; done)), (by first | rfl | (simp; done) | (simp [*]; done)), H', ⟨by have := HK1.out; omega⟩, ⟨by repeat (first | (with_reducible first | exact HB.out | apply below_alloc | apply pw_below_drewN | apply below_drew1 | refine below_set ?_ GE143.out) | exact HB.out)⟩⟩
                    · rw [if_neg c11] at H
                      have c11b0 : ((((rd_T43 l0 x4_1).f2).length : Int) == (((rd_T43 l0 0).f2).length : Int)) = false := beq_eq_false_iff_ne.mpr c11
                      have c11b1 : ((((rd_T43 l0 x4_1).f2).length : Int) != (((rd_T43 l0 0).f2).length : Int)) = true := bne_iff_ne.mpr c11
                      have c11b2 : (((rd_T43 l0 x4_1).f2).length == ((rd_T43 l0 0).f2).length) = false := by first | simpa using c11 | (simp at c11 ⊢; omega)
                      obtain rfl := Option.some.inj H
                      have p142 : 0 ≤ (x4_1 : Int) := of_decide_eq_true (by first | (with_reducible assumption) | assumption)
                      have q142 : x4_1 < (l0.length : Int) := of_decide_eq_true (by first | (with_reducible assumption) | assumption)
                      obtain ⟨ad142, A142_2, c142_2, e142, hx142_0, hx142_1, hx142_2, hx142_3, hl142_2, hi142_2⟩ := at_T43 HR0.out x4_1 p142 q142
                      cases e142
                      replace hx142_0 := (HB.out.cell (World.block_lt_of_cell? w _ hx142_0)).trans hx142_0
                      replace hx142_1 := (HB.out.cell (World.block_lt_of_cell? w _ hx142_1)).trans hx142_1
                      replace hx142_2 := (HB.out.cell (World.block_lt_of_cell? w _ hx142_2)).trans hx142_2
                      replace hx142_3 := (HB.out.cell (World.block_lt_of_cell? w _ hx142_3)).trans hx142_3
                      have HR142_2 := Aside0.mk hi142_2
                      have HC142_2 := Aside0.mk hl142_2
                      clear hi142_2 hl142_2
                      replace p142 := eq_true p142
                      replace q142 := eq_true q142
                      try (have p146 : 0 ≤ (0 : Int) := (by omega); have q146 : 0 < (l0.length : Int) := of_decide_eq_true (by first | (with_reducible assumption) | assumption); obtain ⟨ad146, A146_2, c146_2, e146, hx146_0, hx146_1, hx146_2, hx146_3, hl146_2, hi146_2⟩ := at_T43 HR0.out 0 p146 q146; obtain rfl : ad142 = ad146 := (by injection e146); have qi146 : (0 < l0.length) = True := eq_true (by omega); (try rw [show ((0 : Int)).toNat = 0 from rfl] at hx146_0); (try rw [show 0 * 4 = 0 from rfl] at hx146_0); (try rw [Addr.add_zero'] at hx146_0); (try rw [show ((0 : Int)).toNat = 0 from rfl] at hx146_1); (try rw [show 0 * 4 = 0 from rfl] at hx146_1); (try rw [Addr.add_zero'] at hx146_1); (try rw [show ((0 : Int)).toNat = 0 from rfl] at hx146_2); (try rw [show 0 * 4 = 0 from rfl] at hx146_2); (try rw [Addr.add_zero'] at hx146_2); (try rw [show ((0 : Int)).toNat = 0 from rfl] at hx146_3); (try rw [show 0 * 4 = 0 from rfl] at hx146_3); (try rw [Addr.add_zero'] at hx146_3); have hn146_0 : ad142.block ≠ gb143 := Nat.ne_of_lt (Nat.lt_of_lt_of_le (by have := World.block_lt_of_cell? _ _ hx146_0; first | rwa [add_block] at this | exact this) GW143.out); have hn146_1 : ad142.block ≠ gb143 := Nat.ne_of_lt (Nat.lt_of_lt_of_le (by have := World.block_lt_of_cell? _ _ hx146_0; first | rwa [add_block] at this | exact this) GW143.out); have hn146_2 : ad142.block ≠ gb143 := Nat.ne_of_lt (Nat.lt_of_lt_of_le (by have := World.block_lt_of_cell? _ _ hx146_0; first | rwa [add_block] at this | exact this) GW143.out); have hn146_3 : ad142.block ≠ gb143 := Nat.ne_of_lt (Nat.lt_of_lt_of_le (by have := World.block_lt_of_cell? _ _ hx146_0; first | rwa [add_block] at this | exact this) GW143.out); replace hx146_0 := (HB.out.cell (World.block_lt_of_cell? w _ hx146_0)).trans hx146_0; replace hx146_1 := (HB.out.cell (World.block_lt_of_cell? w _ hx146_1)).trans hx146_1; replace hx146_2 := (HB.out.cell (World.block_lt_of_cell? w _ hx146_2)).trans hx146_2; replace hx146_3 := (HB.out.cell (World.block_lt_of_cell? w _ hx146_3)).trans hx146_3; have HR146_2 := Aside0.mk hi146_2; have HC146_2 := Aside0.mk hl146_2; clear hi146_2 hl146_2; replace hx146_0 := (cell_far (p := ⟨gb143, 0, none⟩) (by first | (rw [add_block]; exact hn146_0) | (show (Addr.add _ _).block ≠ _; rw [add_block]; exact hn146_0) | exact hn146_0) (.int .i64 ((rd_T43 l0 x4_1).f0))).trans hx146_0; replace hx146_1 := (cell_far (p := ⟨gb143, 0, none⟩) (by first | (rw [add_block]; exact hn146_0) | (show (Addr.add _ _).block ≠ _; rw [add_block]; exact hn146_0) | exact hn146_0) (.int .i64 ((rd_T43 l0 x4_1).f0))).trans hx146_1; replace hx146_2 := (cell_far (p := ⟨gb143, 0, none⟩) (by first | (rw [add_block]; exact hn146_0) | (show (Addr.add _ _).block ≠ _; rw [add_block]; exact hn146_0) | exact hn146_0) (.int .i64 ((rd_T43 l0 x4_1).f0))).trans hx146_2; replace hx146_3 := (cell_far (p := ⟨gb143, 0, none⟩) (by first | (rw [add_block]; exact hn146_0) | (show (Addr.add _ _).block ≠ _; rw [add_block]; exact hn146_0) | exact hn146_0) (.int .i64 ((rd_T43 l0 x4_1).f0))).trans hx146_3; replace hx146_0 := (cell_far (p := ⟨gb143, 1, none⟩) (by first | (rw [add_block]; exact hn146_1) | (show (Addr.add _ _).block ≠ _; rw [add_block]; exact hn146_1) | exact hn146_1) (.int .i64 ((rd_T43 l0 x4_1).f1))).trans hx146_0; replace hx146_1 := (cell_far (p := ⟨gb143, 1, none⟩) (by first | (rw [add_block]; exact hn146_1) | (show (Addr.add _ _).block ≠ _; rw [add_block]; exact hn146_1) | exact hn146_1) (.int .i64 ((rd_T43 l0 x4_1).f1))).trans hx146_1; replace hx146_2 := (cell_far (p := ⟨gb143, 1, none⟩) (by first | (rw [add_block]; exact hn146_1) | (show (Addr.add _ _).block ≠ _; rw [add_block]; exact hn146_1) | exact hn146_1) (.int .i64 ((rd_T43 l0 x4_1).f1))).trans hx146_2; replace hx146_3 := (cell_far (p := ⟨gb143, 1, none⟩) (by first | (rw [add_block]; exact hn146_1) | (show (Addr.add _ _).block ≠ _; rw [add_block]; exact hn146_1) | exact hn146_1) (.int .i64 ((rd_T43 l0 x4_1).f1))).trans hx146_3; replace hx146_0 := (cell_far (p := ⟨gb143, 2, none⟩) (by first | (rw [add_block]; exact hn146_2) | (show (Addr.add _ _).block ≠ _; rw [add_block]; exact hn146_2) | exact hn146_2) (.slice A142_2 ((rd_T43 l0 x4_1).f2).length c142_2)).trans hx146_0; replace hx146_1 := (cell_far (p := ⟨gb143, 2, none⟩) (by first | (rw [add_block]; exact hn146_2) | (show (Addr.add _ _).block ≠ _; rw [add_block]; exact hn146_2) | exact hn146_2) (.slice A142_2 ((rd_T43 l0 x4_1).f2).length c142_2)).trans hx146_1; replace hx146_2 := (cell_far (p := ⟨gb143, 2, none⟩) (by first | (rw [add_block]; exact hn146_2) | (show (Addr.add _ _).block ≠ _; rw [add_block]; exact hn146_2) | exact hn146_2) (.slice A142_2 ((rd_T43 l0 x4_1).f2).length c142_2)).trans hx146_2; replace hx146_3 := (cell_far (p := ⟨gb143, 2, none⟩) (by first | (rw [add_block]; exact hn146_2) | (show (Addr.add _ _).block ≠ _; rw [add_block]; exact hn146_2) | exact hn146_2) (.slice A142_2 ((rd_T43 l0 x4_1).f2).length c142_2)).trans hx146_3; replace hx146_0 := (cell_far (p := ⟨gb143, 3, none⟩) (by first | (rw [add_block]; exact hn146_3) | (show (Addr.add _ _).block ≠ _; rw [add_block]; exact hn146_3) | exact hn146_3) (.bool ((rd_T43 l0 x4_1).f3))).trans hx146_0; replace hx146_1 := (cell_far (p := ⟨gb143, 3, none⟩) (by first | (rw [add_block]; exact hn146_3) | (show (Addr.add _ _).block ≠ _; rw [add_block]; exact hn146_3) | exact hn146_3) (.bool ((rd_T43 l0 x4_1).f3))).trans hx146_1; replace hx146_2 := (cell_far (p := ⟨gb143, 3, none⟩) (by first | (rw [add_block]; exact hn146_3) | (show (Addr.add _ _).block ≠ _; rw [add_block]; exact hn146_3) | exact hn146_3) (.bool ((rd_T43 l0 x4_1).f3))).trans hx146_2; replace hx146_3 := (cell_far (p := ⟨gb143, 3, none⟩) (by first | (rw [add_block]; exact hn146_3) | (show (Addr.add _ _).block ≠ _; rw [add_block]; exact hn146_3) | exact hn146_3) (.bool ((rd_T43 l0 x4_1).f3))).trans hx146_3; (try have hy146_0 := fun (n_ : Nat) => (show ((((((w14.drewN n_).setCell ⟨gb143, 0, none⟩ (.int .i64 ((rd_T43 l0 x4_1).f0))).setCell ⟨gb143, 1, none⟩ (.int .i64 ((rd_T43 l0 x4_1).f1))).setCell ⟨gb143, 2, none⟩ (.slice A142_2 ((rd_T43 l0 x4_1).f2).length c142_2)).setCell ⟨gb143, 3, none⟩ (.bool ((rd_T43 l0 x4_1).f3)))).cell? _ = some _ from hx146_0)); (try have hy146_1 := fun (n_ : Nat) => (show ((((((w14.drewN n_).setCell ⟨gb143, 0, none⟩ (.int .i64 ((rd_T43 l0 x4_1).f0))).setCell ⟨gb143, 1, none⟩ (.int .i64 ((rd_T43 l0 x4_1).f1))).setCell ⟨gb143, 2, none⟩ (.slice A142_2 ((rd_T43 l0 x4_1).f2).length c142_2)).setCell ⟨gb143, 3, none⟩ (.bool ((rd_T43 l0 x4_1).f3)))).cell? _ = some _ from hx146_1)); (try have hy146_2 := fun (n_ : Nat) => (show ((((((w14.drewN n_).setCell ⟨gb143, 0, none⟩ (.int .i64 ((rd_T43 l0 x4_1).f0))).setCell ⟨gb143, 1, none⟩ (.int .i64 ((rd_T43 l0 x4_1).f1))).setCell ⟨gb143, 2, none⟩ (.slice A142_2 ((rd_T43 l0 x4_1).f2).length c142_2)).setCell ⟨gb143, 3, none⟩ (.bool ((rd_T43 l0 x4_1).f3)))).cell? _ = some _ from hx146_2)); (try have hy146_3 := fun (n_ : Nat) => (show ((((((w14.drewN n_).setCell ⟨gb143, 0, none⟩ (.int .i64 ((rd_T43 l0 x4_1).f0))).setCell ⟨gb143, 1, none⟩ (.int .i64 ((rd_T43 l0 x4_1).f1))).setCell ⟨gb143, 2, none⟩ (.slice A142_2 ((rd_T43 l0 x4_1).f2).length c142_2)).setCell ⟨gb143, 3, none⟩ (.bool ((rd_T43 l0 x4_1).f3)))).cell? _ = some _ from hx146_3)); clear hn146_0; clear hn146_1; clear hn146_2; clear hn146_3; replace p146 := eq_true p146; replace q146 := eq_true q146)
                      go_wp2_with (first | ((with_reducible refine gate_dst (N := 5) rfl ?_); (try (refine gate_guard (by rfl) ?_; dsimp only)); refine box_event ?hg (N := 5) ?hd (cs := #[.int .i64 0, .int .i64 0, .slice none 0 0, .bool false]) (t := 43) ?hr ?_; (case hd => rfl); (case hg => rfl); (case hr => first | (go_simp; done) | (go_simp; rfl)); intro gb143 hg w14 hbox hb; have n0_ := Aside0.mk (below_step (by repeat (first | (with_reducible first | exact HB.out | apply below_alloc | apply pw_below_drewN | apply below_drew1) | exact HB.out)) hb); have n1_ := Aside0.mk (hbox); have n2_ := Aside0.mk ((by rw [hg]; exact (below_size (by repeat (first | (with_reducible first | exact HB.out | apply below_alloc | apply pw_below_drewN | apply below_drew1) | exact HB.out))) : w.heap.size ≤ gb143)); have n3_ := Aside0.mk ((by rw [hg]; exact (below_size (by repeat (first | (with_reducible first | exact HB.out | apply below_alloc | apply pw_below_drewN | apply below_drew1) | exact HB.out))) : w.heap.size ≤ gb143)); clear HB; have HB := n0_; have BK143 := n1_; have GW143 := n2_; have GE143 := n3_; clear n0_ n1_ n2_ n3_; clear hb hbox hg; have hcz15_0 : w14.cell? ⟨gb143, 0, none⟩ = some (.int .i64 0) := (blk_cell BK143.out 0).trans rfl; have hcz15_1 : w14.cell? ⟨gb143, 1, none⟩ = some (.int .i64 0) := (blk_cell BK143.out 1).trans rfl; have hcz15_2 : w14.cell? ⟨gb143, 2, none⟩ = some (.slice none 0 0) := (blk_cell BK143.out 2).trans rfl; have hcz15_3 : w14.cell? ⟨gb143, 3, none⟩ = some (.bool false) := (blk_cell BK143.out 3).trans rfl; have hfz15_0 := blk_frozen BK143.out 0; have hfz15_1 := blk_frozen BK143.out 1; have hfz15_2 := blk_frozen BK143.out 2; have hfz15_3 := blk_frozen BK143.out 3) | (go_at_call 65; (with_reducible refine (spec_l00In.calls ((rd_T43 l0 x4_1).f1) ((rd_T43 l0 x4_1).f0) 60 true _ A6.out).mono ?_); rintro e w' ⟨rfl, ⟨nd, rfl⟩⟩; (try first | exact ⟨rfl, _, World.drewN_drewN _ _ _⟩ | exact ⟨rfl, _, Eq.trans (World.drewN_drewN _ _ _) (congrArg (World.drewN _) (Nat.add_assoc _ _ _))⟩)) | (go_at_call 46; (with_reducible refine (spec_l12Ok.calls k1 _ _ ((rd_T43 l0 x4_1).f2) true _ ?side1 ?side2 A8.out).mono ?_); (case side1 => exact Kd.C_below HR142_2.out (by repeat (first | (with_reducible first | exact HB.out | apply below_alloc | apply pw_below_drewN | apply below_drew1 | refine below_set ?_ GE143.out) | exact HB.out))); (case side2 => exact HC142_2.out); rintro e w' ⟨rfl, ⟨nd, rfl⟩⟩; (try first | exact ⟨rfl, _, World.drewN_drewN _ _ _⟩ | exact ⟨rfl, _, Eq.trans (World.drewN_drewN _ _ _) (congrArg (World.drewN _) (Nat.add_assoc _ _ _))⟩); have p146 : 0 ≤ (0 : Int) := (by omega); have q146 : 0 < (l0.length : Int) := of_decide_eq_true (by first | (with_reducible assumption) | assumption); obtain ⟨ad146, A146_2, c146_2, e146, hx146_0, hx146_1, hx146_2, hx146_3, hl146_2, hi146_2⟩ := at_T43 HR0.out 0 p146 q146; obtain rfl : ad142 = ad146 := (by injection e146); have qi146 : (0 < l0.length) = True := eq_true (by omega); (try rw [show ((0 : Int)).toNat = 0 from rfl] at hx146_0); (try rw [show 0 * 4 = 0 from rfl] at hx146_0); (try rw [Addr.add_zero'] at hx146_0); (try rw [show ((0 : Int)).toNat = 0 from rfl] at hx146_1); (try rw [show 0 * 4 = 0 from rfl] at hx146_1); (try rw [Addr.add_zero'] at hx146_1); (try rw [show ((0 : Int)).toNat = 0 from rfl] at hx146_2); (try rw [show 0 * 4 = 0 from rfl] at hx146_2); (try rw [Addr.add_zero'] at hx146_2); (try rw [show ((0 : Int)).toNat = 0 from rfl] at hx146_3); (try rw [show 0 * 4 = 0 from rfl] at hx146_3); (try rw [Addr.add_zero'] at hx146_3); have hn146_0 : ad142.block ≠ gb143 := Nat.ne_of_lt (Nat.lt_of_lt_of_le (by have := World.block_lt_of_cell? _ _ hx146_0; first | rwa [add_block] at this | exact this) GW143.out); have hn146_1 : ad142.block ≠ gb143 := Nat.ne_of_lt (Nat.lt_of_lt_of_le (by have := World.block_lt_of_cell? _ _ hx146_0; first | rwa [add_block] at this | exact this) GW143.out); have hn146_2 : ad142.block ≠ gb143 := Nat.ne_of_lt (Nat.lt_of_lt_of_le (by have := World.block_lt_of_cell? _ _ hx146_0; first | rwa [add_block] at this | exact this) GW143.out); have hn146_3 : ad142.block ≠ gb143 := Nat.ne_of_lt (Nat.lt_of_lt_of_le (by have := World.block_lt_of_cell? _ _ hx146_0; first | rwa [add_block] at this | exact this) GW143.out); replace hx146_0 := (HB.out.cell (World.block_lt_of_cell? w _ hx146_0)).trans hx146_0; replace hx146_1 := (HB.out.cell (World.block_lt_of_cell? w _ hx146_1)).trans hx146_1; replace hx146_2 := (HB.out.cell (World.block_lt_of_cell? w _ hx146_2)).trans hx146_2; replace hx146_3 := (HB.out.cell (World.block_lt_of_cell? w _ hx146_3)).trans hx146_3; have HR146_2 := Aside0.mk hi146_2; have HC146_2 := Aside0.mk hl146_2; clear hi146_2 hl146_2; replace hx146_0 := (cell_far (p := ⟨gb143, 0, none⟩) (by first | (rw [add_block]; exact hn146_0) | (show (Addr.add _ _).block ≠ _; rw [add_block]; exact hn146_0) | exact hn146_0) (.int .i64 ((rd_T43 l0 x4_1).f0))).trans hx146_0; replace hx146_1 := (cell_far (p := ⟨gb143, 0, none⟩) (by first | (rw [add_block]; exact hn146_0) | (show (Addr.add _ _).block ≠ _; rw [add_block]; exact hn146_0) | exact hn146_0) (.int .i64 ((rd_T43 l0 x4_1).f0))).trans hx146_1; replace hx146_2 := (cell_far (p := ⟨gb143, 0, none⟩) (by first | (rw [add_block]; exact hn146_0) | (show (Addr.add _ _).block ≠ _; rw [add_block]; exact hn146_0) | exact hn146_0) (.int .i64 ((rd_T43 l0 x4_1).f0))).trans hx146_2; replace hx146_3 := (cell_far (p := ⟨gb143, 0, none⟩) (by first | (rw [add_block]; exact hn146_0) | (show (Addr.add _ _).block ≠ _; rw [add_block]; exact hn146_0) | exact hn146_0) (.int .i64 ((rd_T43 l0 x4_1).f0))).trans hx146_3; replace hx146_0 := (cell_far (p := ⟨gb143, 1, none⟩) (by first | (rw [add_block]; exact hn146_1) | (show (Addr.add _ _).block ≠ _; rw [add_block]; exact hn146_1) | exact hn146_1) (.int .i64 ((rd_T43 l0 x4_1).f1))).trans hx146_0; replace hx146_1 := (cell_far (p := ⟨gb143, 1, none⟩) (by first | (rw [add_block]; exact hn146_1) | (show (Addr.add _ _).block ≠ _; rw [add_block]; exact hn146_1) | exact hn146_1) (.int .i64 ((rd_T43 l0 x4_1).f1))).trans hx146_1; replace hx146_2 := (cell_far (p := ⟨gb143, 1, none⟩) (by first | (rw [add_block]; exact hn146_1) | (show (Addr.add _ _).block ≠ _; rw [add_block]; exact hn146_1) | exact hn146_1) (.int .i64 ((rd_T43 l0 x4_1).f1))).trans hx146_2; replace hx146_3 := (cell_far (p := ⟨gb143, 1, none⟩) (by first | (rw [add_block]; exact hn146_1) | (show (Addr.add _ _).block ≠ _; rw [add_block]; exact hn146_1) | exact hn146_1) (.int .i64 ((rd_T43 l0 x4_1).f1))).trans hx146_3; replace hx146_0 := (cell_far (p := ⟨gb143, 2, none⟩) (by first | (rw [add_block]; exact hn146_2) | (show (Addr.add _ _).block ≠ _; rw [add_block]; exact hn146_2) | exact hn146_2) (.slice A142_2 ((rd_T43 l0 x4_1).f2).length c142_2)).trans hx146_0; replace hx146_1 := (cell_far (p := ⟨gb143, 2, none⟩) (by first | (rw [add_block]; exact hn146_2) | (show (Addr.add _ _).block ≠ _; rw [add_block]; exact hn146_2) | exact hn146_2) (.slice A142_2 ((rd_T43 l0 x4_1).f2).length c142_2)).trans hx146_1; replace hx146_2 := (cell_far (p := ⟨gb143, 2, none⟩) (by first | (rw [add_block]; exact hn146_2) | (show (Addr.add _ _).block ≠ _; rw [add_block]; exact hn146_2) | exact hn146_2) (.slice A142_2 ((rd_T43 l0 x4_1).f2).length c142_2)).trans hx146_2; replace hx146_3 := (cell_far (p := ⟨gb143, 2, none⟩) (by first | (rw [add_block]; exact hn146_2) | (show (Addr.add _ _).block ≠ _; rw [add_block]; exact hn146_2) | exact hn146_2) (.slice A142_2 ((rd_T43 l0 x4_1).f2).length c142_2)).trans hx146_3; replace hx146_0 := (cell_far (p := ⟨gb143, 3, none⟩) (by first | (rw [add_block]; exact hn146_3) | (show (Addr.add _ _).block ≠ _; rw [add_block]; exact hn146_3) | exact hn146_3) (.bool ((rd_T43 l0 x4_1).f3))).trans hx146_0; replace hx146_1 := (cell_far (p := ⟨gb143, 3, none⟩) (by first | (rw [add_block]; exact hn146_3) | (show (Addr.add _ _).block ≠ _; rw [add_block]; exact hn146_3) | exact hn146_3) (.bool ((rd_T43 l0 x4_1).f3))).trans hx146_1; replace hx146_2 := (cell_far (p := ⟨gb143, 3, none⟩) (by first | (rw [add_block]; exact hn146_3) | (show (Addr.add _ _).block ≠ _; rw [add_block]; exact hn146_3) | exact hn146_3) (.bool ((rd_T43 l0 x4_1).f3))).trans hx146_2; replace hx146_3 := (cell_far (p := ⟨gb143, 3, none⟩) (by first | (rw [add_block]; exact hn146_3) | (show (Addr.add _ _).block ≠ _; rw [add_block]; exact hn146_3) | exact hn146_3) (.bool ((rd_T43 l0 x4_1).f3))).trans hx146_3; (try have hy146_0 := fun (n_ : Nat) => (show ((((((w14.drewN n_).setCell ⟨gb143, 0, none⟩ (.int .i64 ((rd_T43 l0 x4_1).f0))).setCell ⟨gb143, 1, none⟩ (.int .i64 ((rd_T43 l0 x4_1).f1))).setCell ⟨gb143, 2, none⟩ (.slice A142_2 ((rd_T43 l0 x4_1).f2).length c142_2)).setCell ⟨gb143, 3, none⟩ (.bool ((rd_T43 l0 x4_1).f3)))).cell? _ = some _ from hx146_0)); (try have hy146_1 := fun (n_ : Nat) => (show ((((((w14.drewN n_).setCell ⟨gb143, 0, none⟩ (.int .i64 ((rd_T43 l0 x4_1).f0))).setCell ⟨gb143, 1, none⟩ (.int .i64 ((rd_T43 l0 x4_1).f1))).setCell ⟨gb143, 2, none⟩ (.slice A142_2 ((rd_T43 l0 x4_1).f2).length c142_2)).setCell ⟨gb143, 3, none⟩ (.bool ((rd_T43 l0 x4_1).f3)))).cell? _ = some _ from hx146_1)); (try have hy146_2 := fun (n_ : Nat) => (show ((((((w14.drewN n_).setCell ⟨gb143, 0, none⟩ (.int .i64 ((rd_T43 l0 x4_1).f0))).setCell ⟨gb143, 1, none⟩ (.int .i64 ((rd_T43 l0 x4_1).f1))).setCell ⟨gb143, 2, none⟩ (.slice A142_2 ((rd_T43 l0 x4_1).f2).length c142_2)).setCell ⟨gb143, 3, none⟩ (.bool ((rd_T43 l0 x4_1).f3)))).cell? _ = some _ from hx146_2)); (try have hy146_3 := fun (n_ : Nat) => (show ((((((w14.drewN n_).setCell ⟨gb143, 0, none⟩ (.int .i64 ((rd_T43 l0 x4_1).f0))).setCell ⟨gb143, 1, none⟩ (.int .i64 ((rd_T43 l0 x4_1).f1))).setCell ⟨gb143, 2, none⟩ (.slice A142_2 ((rd_T43 l0 x4_1).f2).length c142_2)).setCell ⟨gb143, 3, none⟩ (.bool ((rd_T43 l0 x4_1).f3)))).cell? _ = some _ from hx146_3)); clear hn146_0; clear hn146_1; clear hn146_2; clear hn146_3; replace p146 := eq_true p146; replace q146 := eq_true q146))
                      first | (have hz_ := hy146_3; clear hz_) | (have p146 : 0 ≤ (0 : Int) := (by omega); have q146 : 0 < (l0.length : Int) := of_decide_eq_true (by first | (with_reducible assumption) | assumption); obtain ⟨ad146, A146_2, c146_2, e146, hx146_0, hx146_1, hx146_2, hx146_3, hl146_2, hi146_2⟩ := at_T43 HR0.out 0 p146 q146; obtain rfl : ad142 = ad146 := (by injection e146); have qi146 : (0 < l0.length) = True := eq_true (by omega); (try rw [show ((0 : Int)).toNat = 0 from rfl] at hx146_0); (try rw [show 0 * 4 = 0 from rfl] at hx146_0); (try rw [Addr.add_zero'] at hx146_0); (try rw [show ((0 : Int)).toNat = 0 from rfl] at hx146_1); (try rw [show 0 * 4 = 0 from rfl] at hx146_1); (try rw [Addr.add_zero'] at hx146_1); (try rw [show ((0 : Int)).toNat = 0 from rfl] at hx146_2); (try rw [show 0 * 4 = 0 from rfl] at hx146_2); (try rw [Addr.add_zero'] at hx146_2); (try rw [show ((0 : Int)).toNat = 0 from rfl] at hx146_3); (try rw [show 0 * 4 = 0 from rfl] at hx146_3); (try rw [Addr.add_zero'] at hx146_3); have hn146_0 : ad142.block ≠ gb143 := Nat.ne_of_lt (Nat.lt_of_lt_of_le (by have := World.block_lt_of_cell? _ _ hx146_0; first | rwa [add_block] at this | exact this) GW143.out); have hn146_1 : ad142.block ≠ gb143 := Nat.ne_of_lt (Nat.lt_of_lt_of_le (by have := World.block_lt_of_cell? _ _ hx146_0; first | rwa [add_block] at this | exact this) GW143.out); have hn146_2 : ad142.block ≠ gb143 := Nat.ne_of_lt (Nat.lt_of_lt_of_le (by have := World.block_lt_of_cell? _ _ hx146_0; first | rwa [add_block] at this | exact this) GW143.out); have hn146_3 : ad142.block ≠ gb143 := Nat.ne_of_lt (Nat.lt_of_lt_of_le (by have := World.block_lt_of_cell? _ _ hx146_0; first | rwa [add_block] at this | exact this) GW143.out); replace hx146_0 := (HB.out.cell (World.block_lt_of_cell? w _ hx146_0)).trans hx146_0; replace hx146_1 := (HB.out.cell (World.block_lt_of_cell? w _ hx146_1)).trans hx146_1; replace hx146_2 := (HB.out.cell (World.block_lt_of_cell? w _ hx146_2)).trans hx146_2; replace hx146_3 := (HB.out.cell (World.block_lt_of_cell? w _ hx146_3)).trans hx146_3; have HR146_2 := Aside0.mk hi146_2; have HC146_2 := Aside0.mk hl146_2; clear hi146_2 hl146_2; replace hx146_0 := (cell_far (p := ⟨gb143, 0, none⟩) (by first | (rw [add_block]; exact hn146_0) | (show (Addr.add _ _).block ≠ _; rw [add_block]; exact hn146_0) | exact hn146_0) (.int .i64 ((rd_T43 l0 x4_1).f0))).trans hx146_0; replace hx146_1 := (cell_far (p := ⟨gb143, 0, none⟩) (by first | (rw [add_block]; exact hn146_0) | (show (Addr.add _ _).block ≠ _; rw [add_block]; exact hn146_0) | exact hn146_0) (.int .i64 ((rd_T43 l0 x4_1).f0))).trans hx146_1; replace hx146_2 := (cell_far (p := ⟨gb143, 0, none⟩) (by first | (rw [add_block]; exact hn146_0) | (show (Addr.add _ _).block ≠ _; rw [add_block]; exact hn146_0) | exact hn146_0) (.int .i64 ((rd_T43 l0 x4_1).f0))).trans hx146_2; replace hx146_3 := (cell_far (p := ⟨gb143, 0, none⟩) (by first | (rw [add_block]; exact hn146_0) | (show (Addr.add _ _).block ≠ _; rw [add_block]; exact hn146_0) | exact hn146_0) (.int .i64 ((rd_T43 l0 x4_1).f0))).trans hx146_3; replace hx146_0 := (cell_far (p := ⟨gb143, 1, none⟩) (by first | (rw [add_block]; exact hn146_1) | (show (Addr.add _ _).block ≠ _; rw [add_block]; exact hn146_1) | exact hn146_1) (.int .i64 ((rd_T43 l0 x4_1).f1))).trans hx146_0; replace hx146_1 := (cell_far (p := ⟨gb143, 1, none⟩) (by first | (rw [add_block]; exact hn146_1) | (show (Addr.add _ _).block ≠ _; rw [add_block]; exact hn146_1) | exact hn146_1) (.int .i64 ((rd_T43 l0 x4_1).f1))).trans hx146_1; replace hx146_2 := (cell_far (p := ⟨gb143, 1, none⟩) (by first | (rw [add_block]; exact hn146_1) | (show (Addr.add _ _).block ≠ _; rw [add_block]; exact hn146_1) | exact hn146_1) (.int .i64 ((rd_T43 l0 x4_1).f1))).trans hx146_2; replace hx146_3 := (cell_far (p := ⟨gb143, 1, none⟩) (by first | (rw [add_block]; exact hn146_1) | (show (Addr.add _ _).block ≠ _; rw [add_block]; exact hn146_1) | exact hn146_1) (.int .i64 ((rd_T43 l0 x4_1).f1))).trans hx146_3; replace hx146_0 := (cell_far (p := ⟨gb143, 2, none⟩) (by first | (rw [add_block]; exact hn146_2) | (show (Addr.add _ _).block ≠ _; rw [add_block]; exact hn146_2) | exact hn146_2) (.slice A142_2 ((rd_T43 l0 x4_1).f2).length c142_2)).trans hx146_0; replace hx146_1 := (cell_far (p := ⟨gb143, 2, none⟩) (by first | (rw [add_block]; exact hn146_2) | (show (Addr.add _ _).block ≠ _; rw [add_block]; exact hn146_2) | exact hn146_2) (.slice A142_2 ((rd_T43 l0 x4_1).f2).length c142_2)).trans hx146_1; replace hx146_2 := (cell_far (p := ⟨gb143, 2, none⟩) (by first | (rw [add_block]; exact hn146_2) | (show (Addr.add _ _).block ≠ _; rw [add_block]; exact hn146_2) | exact hn146_2) (.slice A142_2 ((rd_T43 l0 x4_1).f2).length c142_2)).trans hx146_2; replace hx146_3 := (cell_far (p := ⟨gb143, 2, none⟩) (by first | (rw [add_block]; exact hn146_2) | (show (Addr.add _ _).block ≠ _; rw [add_block]; exact hn146_2) | exact hn146_2) (.slice A142_2 ((rd_T43 l0 x4_1).f2).length c142_2)).trans hx146_3; replace hx146_0 := (cell_far (p := ⟨gb143, 3, none⟩) (by first | (rw [add_block]; exact hn146_3) | (show (Addr.add _ _).block ≠ _; rw [add_block]; exact hn146_3) | exact hn146_3) (.bool ((rd_T43 l0 x4_1).f3))).trans hx146_0; replace hx146_1 := (cell_far (p := ⟨gb143, 3, none⟩) (by first | (rw [add_block]; exact hn146_3) | (show (Addr.add _ _).block ≠ _; rw [add_block]; exact hn146_3) | exact hn146_3) (.bool ((rd_T43 l0 x4_1).f3))).trans hx146_1; replace hx146_2 := (cell_far (p := ⟨gb143, 3, none⟩) (by first | (rw [add_block]; exact hn146_3) | (show (Addr.add _ _).block ≠ _; rw [add_block]; exact hn146_3) | exact hn146_3) (.bool ((rd_T43 l0 x4_1).f3))).trans hx146_2; replace hx146_3 := (cell_far (p := ⟨gb143, 3, none⟩) (by first | (rw [add_block]; exact hn146_3) | (show (Addr.add _ _).block ≠ _; rw [add_block]; exact hn146_3) | exact hn146_3) (.bool ((rd_T43 l0 x4_1).f3))).trans hx146_3; (try have hy146_0 := fun (n_ : Nat) => (show ((((((w14.drewN n_).setCell ⟨gb143, 0, none⟩ (.int .i64 ((rd_T43 l0 x4_1).f0))).setCell ⟨gb143, 1, none⟩ (.int .i64 ((rd_T43 l0 x4_1).f1))).setCell ⟨gb143, 2, none⟩ (.slice A142_2 ((rd_T43 l0 x4_1).f2).length c142_2)).setCell ⟨gb143, 3, none⟩ (.bool ((rd_T43 l0 x4_1).f3)))).cell? _ = some _ from hx146_0)); (try have hy146_1 := fun (n_ : Nat) => (show ((((((w14.drewN n_).setCell ⟨gb143, 0, none⟩ (.int .i64 ((rd_T43 l0 x4_1).f0))).setCell ⟨gb143, 1, none⟩ (.int .i64 ((rd_T43 l0 x4_1).f1))).setCell ⟨gb143, 2, none⟩ (.slice A142_2 ((rd_T43 l0 x4_1).f2).length c142_2)).setCell ⟨gb143, 3, none⟩ (.bool ((rd_T43 l0 x4_1).f3)))).cell? _ = some _ from hx146_1)); (try have hy146_2 := fun (n_ : Nat) => (show ((((((w14.drewN n_).setCell ⟨gb143, 0, none⟩ (.int .i64 ((rd_T43 l0 x4_1).f0))).setCell ⟨gb143, 1, none⟩ (.int .i64 ((rd_T43 l0 x4_1).f1))).setCell ⟨gb143, 2, none⟩ (.slice A142_2 ((rd_T43 l0 x4_1).f2).length c142_2)).setCell ⟨gb143, 3, none⟩ (.bool ((rd_T43 l0 x4_1).f3)))).cell? _ = some _ from hx146_2)); (try have hy146_3 := fun (n_ : Nat) => (show ((((((w14.drewN n_).setCell ⟨gb143, 0, none⟩ (.int .i64 ((rd_T43 l0 x4_1).f0))).setCell ⟨gb143, 1, none⟩ (.int .i64 ((rd_T43 l0 x4_1).f1))).setCell ⟨gb143, 2, none⟩ (.slice A142_2 ((rd_T43 l0 x4_1).f2).length c142_2)).setCell ⟨gb143, 3, none⟩ (.bool ((rd_T43 l0 x4_1).f3)))).cell? _ = some _ from hx146_3)); clear hn146_0; clear hn146_1; clear hn146_2; clear hn146_3; replace p146 := eq_true p146; replace q146 := eq_true q146) | skip
                      repeat (go_quiet (first | ((with_reducible refine gate_dst (N := 5) rfl ?_); (try (refine gate_guard (by rfl) ?_; dsimp only)); refine box_event ?hg (N := 5) ?hd (cs := #[.int .i64 0, .int .i64 0, .slice none 0 0, .bool false]) (t := 43) ?hr ?_; (case hd => rfl); (case hg => rfl); (case hr => first | (go_simp; done) | (go_simp; rfl)); intro gb143 hg w14 hbox hb; have n0_ := Aside0.mk (below_step (by repeat (first | (with_reducible first | exact HB.out | apply below_alloc | apply pw_below_drewN | apply below_drew1) | exact HB.out)) hb); have n1_ := Aside0.mk (hbox); have n2_ := Aside0.mk ((by rw [hg]; exact (below_size (by repeat (first | (with_reducible first | exact HB.out | apply below_alloc | apply pw_below_drewN | apply below_drew1) | exact HB.out))) : w.heap.size ≤ gb143)); have n3_ := Aside0.mk ((by rw [hg]; exact (below_size (by repeat (first | (with_reducible first | exact HB.out | apply below_alloc | apply pw_below_drewN | apply below_drew1) | exact HB.out))) : w.heap.size ≤ gb143)); clear HB; have HB := n0_; have BK143 := n1_; have GW143 := n2_; have GE143 := n3_; clear n0_ n1_ n2_ n3_; clear hb hbox hg; have hcz15_0 : w14.cell? ⟨gb143, 0, none⟩ = some (.int .i64 0) := (blk_cell BK143.out 0).trans rfl; have hcz15_1 : w14.cell? ⟨gb143, 1, none⟩ = some (.int .i64 0) := (blk_cell BK143.out 1).trans rfl; have hcz15_2 : w14.cell? ⟨gb143, 2, none⟩ = some (.slice none 0 0) := (blk_cell BK143.out 2).trans rfl; have hcz15_3 : w14.cell? ⟨gb143, 3, none⟩ = some (.bool false) := (blk_cell BK143.out 3).trans rfl; have hfz15_0 := blk_frozen BK143.out 0; have hfz15_1 := blk_frozen BK143.out 1; have hfz15_2 := blk_frozen BK143.out 2; have hfz15_3 := blk_frozen BK143.out 3) | (go_at_call 65; (with_reducible refine (spec_l00In.calls ((rd_T43 l0 x4_1).f1) ((rd_T43 l0 x4_1).f0) 60 true _ A6.out).mono ?_); rintro e w' ⟨rfl, ⟨nd, rfl⟩⟩; (try first | exact ⟨rfl, _, World.drewN_drewN _ _ _⟩ | exact ⟨rfl, _, Eq.trans (World.drewN_drewN _ _ _) (congrArg (World.drewN _) (Nat.add_assoc _ _ _))⟩)) | (go_at_call 46; (with_reducible refine (spec_l12Ok.calls k1 _ _ ((rd_T43 l0 x4_1).f2) true _ ?side1 ?side2 A8.out).mono ?_); (case side1 => exact Kd.C_below HR142_2.out (by repeat (first | (with_reducible first | exact HB.out | apply below_alloc | apply pw_below_drewN | apply below_drew1 | refine below_set ?_ GE143.out) | exact HB.out))); (case side2 => exact HC142_2.out); rintro e w' ⟨rfl, ⟨nd, rfl⟩⟩; (try first | exact ⟨rfl, _, World.drewN_drewN _ _ _⟩ | exact ⟨rfl, _, Eq.trans (World.drewN_drewN _ _ _) (congrArg (World.drewN _) (Nat.add_assoc _ _ _))⟩))); try go_wp2_with (first | ((with_reducible refine gate_dst (N := 5) rfl ?_); (try (refine gate_guard (by rfl) ?_; dsimp only)); refine box_event ?hg (N := 5) ?hd (cs := #[.int .i64 0, .int .i64 0, .slice none 0 0, .bool false]) (t := 43) ?hr ?_; (case hd => rfl); (case hg => rfl); (case hr => first | (go_simp; done) | (go_simp; rfl)); intro gb143 hg w14 hbox hb; have n0_ := Aside0.mk (below_step (by repeat (first | (with_reducible first | exact HB.out | apply below_alloc | apply pw_below_drewN | apply below_drew1) | exact HB.out)) hb); have n1_ := Aside0.mk (hbox); have n2_ := Aside0.mk ((by rw [hg]; exact (below_size (by repeat (first | (with_reducible first | exact HB.out | apply below_alloc | apply pw_below_drewN | apply below_drew1) | exact HB.out))) : w.heap.size ≤ gb143)); have n3_ := Aside0.mk ((by rw [hg]; exact (below_size (by repeat (first | (with_reducible first | exact HB.out | apply below_alloc | apply pw_below_drewN | apply below_drew1) | exact HB.out))) : w.heap.size ≤ gb143)); clear HB; have HB := n0_; have BK143 := n1_; have GW143 := n2_; have GE143 := n3_; clear n0_ n1_ n2_ n3_; clear hb hbox hg; have hcz15_0 : w14.cell? ⟨gb143, 0, none⟩ = some (.int .i64 0) := (blk_cell BK143.out 0).trans rfl; have hcz15_1 : w14.cell? ⟨gb143, 1, none⟩ = some (.int .i64 0) := (blk_cell BK143.out 1).trans rfl; have hcz15_2 : w14.cell? ⟨gb143, 2, none⟩ = some (.slice none 0 0) := (blk_cell BK143.out 2).trans rfl; have hcz15_3 : w14.cell? ⟨gb143, 3, none⟩ = some (.bool false) := (blk_cell BK143.out 3).trans rfl; have hfz15_0 := blk_frozen BK143.out 0; have hfz15_1 := blk_frozen BK143.out 1; have hfz15_2 := blk_frozen BK143.out 2; have hfz15_3 := blk_frozen BK143.out 3) | (go_at_call 65; (with_reducible refine (spec_l00In.calls ((rd_T43 l0 x4_1).f1) ((rd_T43 l0 x4_1).f0) 60 true _ A6.out).mono ?_); rintro e w' ⟨rfl, ⟨nd, rfl⟩⟩; (try first | exact ⟨rfl, _, World.drewN_drewN _ _ _⟩ | exact ⟨rfl, _, Eq.trans (World.drewN_drewN _ _ _) (congrArg (World.drewN _) (Nat.add_assoc _ _ _))⟩)) | (go_at_call 46; (with_reducible refine (spec_l12Ok.calls k1 _ _ ((rd_T43 l0 x4_1).f2) true _ ?side1 ?side2 A8.out).mono ?_); (case side1 => exact Kd.C_below HR142_2.out (by repeat (first | (with_reducible first | exact HB.out | apply below_alloc | apply pw_below_drewN | apply below_drew1 | refine below_set ?_ GE143.out) | exact HB.out))); (case side2 => exact HC142_2.out); rintro e w' ⟨rfl, ⟨nd, rfl⟩⟩; (try first | exact ⟨rfl, _, World.drewN_drewN _ _ _⟩ | exact ⟨rfl, _, Eq.trans (World.drewN_drewN _ _ _) (congrArg (World.drewN _) (Nat.add_assoc _ _ _))⟩); have p146 : 0 ≤ (0 : Int) := (by omega); have q146 : 0 < (l0.length : Int) := of_decide_eq_true (by first | (with_reducible assumption) | assumption); obtain ⟨ad146, A146_2, c146_2, e146, hx146_0, hx146_1, hx146_2, hx146_3, hl146_2, hi146_2⟩ := at_T43 HR0.out 0 p146 q146; obtain rfl : ad142 = ad146 := (by injection e146); have qi146 : (0 < l0.length) = True := eq_true (by omega); (try rw [show ((0 : Int)).toNat = 0 from rfl] at hx146_0); (try rw [show 0 * 4 = 0 from rfl] at hx146_0); (try rw [Addr.add_zero'] at hx146_0); (try rw [show ((0 : Int)).toNat = 0 from rfl] at hx146_1); (try rw [show 0 * 4 = 0 from rfl] at hx146_1); (try rw [Addr.add_zero'] at hx146_1); (try rw [show ((0 : Int)).toNat = 0 from rfl] at hx146_2); (try rw [show 0 * 4 = 0 from rfl] at hx146_2); (try rw [Addr.add_zero'] at hx146_2); (try rw [show ((0 : Int)).toNat = 0 from rfl] at hx146_3); (try rw [show 0 * 4 = 0 from rfl] at hx146_3); (try rw [Addr.add_zero'] at hx146_3); have hn146_0 : ad142.block ≠ gb143 := Nat.ne_of_lt (Nat.lt_of_lt_of_le (by have := World.block_lt_of_cell? _ _ hx146_0; first | rwa [add_block] at this | exact this) GW143.out); have hn146_1 : ad142.block ≠ gb143 := Nat.ne_of_lt (Nat.lt_of_lt_of_le (by have := World.block_lt_of_cell? _ _ hx146_0; first | rwa [add_block] at this | exact this) GW143.out); have hn146_2 : ad142.block ≠ gb143 := Nat.ne_of_lt (Nat.lt_of_lt_of_le (by have := World.block_lt_of_cell? _ _ hx146_0; first | rwa [add_block] at this | exact this) GW143.out); have hn146_3 : ad142.block ≠ gb143 := Nat.ne_of_lt (Nat.lt_of_lt_of_le (by have := World.block_lt_of_cell? _ _ hx146_0; first | rwa [add_block] at this | exact this) GW143.out); replace hx146_0 := (HB.out.cell (World.block_lt_of_cell? w _ hx146_0)).trans hx146_0; replace hx146_1 := (HB.out.cell (World.block_lt_of_cell? w _ hx146_1)).trans hx146_1; replace hx146_2 := (HB.out.cell (World.block_lt_of_cell? w _ hx146_2)).trans hx146_2; replace hx146_3 := (HB.out.cell (World.block_lt_of_cell? w _ hx146_3)).trans hx146_3; have HR146_2 := Aside0.mk hi146_2; have HC146_2 := Aside0.mk hl146_2; clear hi146_2 hl146_2; replace hx146_0 := (cell_far (p := ⟨gb143, 0, none⟩) (by first | (rw [add_block]; exact hn146_0) | (show (Addr.add _ _).block ≠ _; rw [add_block]; exact hn146_0) | exact hn146_0) (.int .i64 ((rd_T43 l0 x4_1).f0))).trans hx146_0; replace hx146_1 := (cell_far (p := ⟨gb143, 0, none⟩) (by first | (rw [add_block]; exact hn146_0) | (show (Addr.add _ _).block ≠ _; rw [add_block]; exact hn146_0) | exact hn146_0) (.int .i64 ((rd_T43 l0 x4_1).f0))).trans hx146_1; replace hx146_2 := (cell_far (p := ⟨gb143, 0, none⟩) (by first | (rw [add_block]; exact hn146_0) | (show (Addr.add _ _).block ≠ _; rw [add_block]; exact hn146_0) | exact hn146_0) (.int .i64 ((rd_T43 l0 x4_1).f0))).trans hx146_2; replace hx146_3 := (cell_far (p := ⟨gb143, 0, none⟩) (by first | (rw [add_block]; exact hn146_0) | (show (Addr.add _ _).block ≠ _; rw [add_block]; exact hn146_0) | exact hn146_0) (.int .i64 ((rd_T43 l0 x4_1).f0))).trans hx146_3; replace hx146_0 := (cell_far (p := ⟨gb143, 1, none⟩) (by first | (rw [add_block]; exact hn146_1) | (show (Addr.add _ _).block ≠ _; rw [add_block]; exact hn146_1) | exact hn146_1) (.int .i64 ((rd_T43 l0 x4_1).f1))).trans hx146_0; replace hx146_1 := (cell_far (p := ⟨gb143, 1, none⟩) (by first | (rw [add_block]; exact hn146_1) | (show (Addr.add _ _).block ≠ _; rw [add_block]; exact hn146_1) | exact hn146_1) (.int .i64 ((rd_T43 l0 x4_1).f1))).trans hx146_1; replace hx146_2 := (cell_far (p := ⟨gb143, 1, none⟩) (by first | (rw [add_block]; exact hn146_1) | (show (Addr.add _ _).block ≠ _; rw [add_block]; exact hn146_1) | exact hn146_1) (.int .i64 ((rd_T43 l0 x4_1).f1))).trans hx146_2; replace hx146_3 := (cell_far (p := ⟨gb143, 1, none⟩) (by first | (rw [add_block]; exact hn146_1) | (show (Addr.add _ _).block ≠ _; rw [add_block]; exact hn146_1) | exact hn146_1) (.int .i64 ((rd_T43 l0 x4_1).f1))).trans hx146_3; replace hx146_0 := (cell_far (p := ⟨gb143, 2, none⟩) (by first | (rw [add_block]; exact hn146_2) | (show (Addr.add _ _).block ≠ _; rw [add_block]; exact hn146_2) | exact hn146_2) (.slice A142_2 ((rd_T43 l0 x4_1).f2).length c142_2)).trans hx146_0; replace hx146_1 := (cell_far (p := ⟨gb143, 2, none⟩) (by first | (rw [add_block]; exact hn146_2) | (show (Addr.add _ _).block ≠ _; rw [add_block]; exact hn146_2) | exact hn146_2) (.slice A142_2 ((rd_T43 l0 x4_1).f2).length c142_2)).trans hx146_1; replace hx146_2 := (cell_far (p := ⟨gb143, 2, none⟩) (by first | (rw [add_block]; exact hn146_2) | (show (Addr.add _ _).block ≠ _; rw [add_block]; exact hn146_2) | exact hn146_2) (.slice A142_2 ((rd_T43 l0 x4_1).f2).length c142_2)).trans hx146_2; replace hx146_3 := (cell_far (p := ⟨gb143, 2, none⟩) (by first | (rw [add_block]; exact hn146_2) | (show (Addr.add _ _).block ≠ _; rw [add_block]; exact hn146_2) | exact hn146_2) (.slice A142_2 ((rd_T43 l0 x4_1).f2).length c142_2)).trans hx146_3; replace hx146_0 := (cell_far (p := ⟨gb143, 3, none⟩) (by first | (rw [add_block]; exact hn146_3) | (show (Addr.add _ _).block ≠ _; rw [add_block]; exact hn146_3) | exact hn146_3) (.bool ((rd_T43 l0 x4_1).f3))).trans hx146_0; replace hx146_1 := (cell_far (p := ⟨gb143, 3, none⟩) (by first | (rw [add_block]; exact hn146_3) | (show (Addr.add _ _).block ≠ _; rw [add_block]; exact hn146_3) | exact hn146_3) (.bool ((rd_T43 l0 x4_1).f3))).trans hx146_1; replace hx146_2 := (cell_far (p := ⟨gb143, 3, none⟩) (by first | (rw [add_block]; exact hn146_3) | (show (Addr.add _ _).block ≠ _; rw [add_block]; exact hn146_3) | exact hn146_3) (.bool ((rd_T43 l0 x4_1).f3))).trans hx146_2; replace hx146_3 := (cell_far (p := ⟨gb143, 3, none⟩) (by first | (rw [add_block]; exact hn146_3) | (show (Addr.add _ _).block ≠ _; rw [add_block]; exact hn146_3) | exact hn146_3) (.bool ((rd_T43 l0 x4_1).f3))).trans hx146_3; (try have hy146_0 := fun (n_ : Nat) => (show ((((((w14.drewN n_).setCell ⟨gb143, 0, none⟩ (.int .i64 ((rd_T43 l0 x4_1).f0))).setCell ⟨gb143, 1, none⟩ (.int .i64 ((rd_T43 l0 x4_1).f1))).setCell ⟨gb143, 2, none⟩ (.slice A142_2 ((rd_T43 l0 x4_1).f2).length c142_2)).setCell ⟨gb143, 3, none⟩ (.bool ((rd_T43 l0 x4_1).f3)))).cell? _ = some _ from hx146_0)); (try have hy146_1 := fun (n_ : Nat) => (show ((((((w14.drewN n_).setCell ⟨gb143, 0, none⟩ (.int .i64 ((rd_T43 l0 x4_1).f0))).setCell ⟨gb143, 1, none⟩ (.int .i64 ((rd_T43 l0 x4_1).f1))).setCell ⟨gb143, 2, none⟩ (.slice A142_2 ((rd_T43 l0 x4_1).f2).length c142_2)).setCell ⟨gb143, 3, none⟩ (.bool ((rd_T43 l0 x4_1).f3)))).cell? _ = some _ from hx146_1)); (try have hy146_2 := fun (n_ : Nat) => (show ((((((w14.drewN n_).setCell ⟨gb143, 0, none⟩ (.int .i64 ((rd_T43 l0 x4_1).f0))).setCell ⟨gb143, 1, none⟩ (.int .i64 ((rd_T43 l0 x4_1).f1))).setCell ⟨gb143, 2, none⟩ (.slice A142_2 ((rd_T43 l0 x4_1).f2).length c142_2)).setCell ⟨gb143, 3, none⟩ (.bool ((rd_T43 l0 x4_1).f3)))).cell? _ = some _ from hx146_2)); (try have hy146_3 := fun (n_ : Nat) => (show ((((((w14.drewN n_).setCell ⟨gb143, 0, none⟩ (.int .i64 ((rd_T43 l0 x4_1).f0))).setCell ⟨gb143, 1, none⟩ (.int .i64 ((rd_T43 l0 x4_1).f1))).setCell ⟨gb143, 2, none⟩ (.slice A142_2 ((rd_T43 l0 x4_1).f2).length c142_2)).setCell ⟨gb143, 3, none⟩ (.bool ((rd_T43 l0 x4_1).f3)))).cell? _ = some _ from hx146_3)); clear hn146_0; clear hn146_1; clear hn146_2; clear hn146_3; replace p146 := eq_true p146; replace q146 := eq_true q146)))
                      go_ret
                      exact ⟨by first | rfl | (simp [errW_none, errW_some] <;> rfl) | (simp [*, errW_none, errW_some] <;> rfl), by repeat (first | (with_reducible first | exact HB.out | apply below_alloc | apply pw_below_drewN | apply below_drew1 | refine below_set ?_ GE143.out) | exact HB.out)⟩
                  · rw [if_neg c10] at H
                    exact absurd H (by simp)
                · replace c9 := Bool.eq_false_iff.mpr c9
                  subst c9
                  have H1 : (some false) = some r := by rw [if_neg (show ¬ (false = true) by decide)] at H; exact H
                  clear H
                  have H := H1
                  clear H1
                  obtain rfl := Option.some.inj H
                  have p142 : 0 ≤ (x4_1 : Int) := of_decide_eq_true (by first | (with_reducible assumption) | assumption)
                  have q142 : x4_1 < (l0.length : Int) := of_decide_eq_true (by first | (with_reducible assumption) | assumption)
                  obtain ⟨ad142, A142_2, c142_2, e142, hx142_0, hx142_1, hx142_2, hx142_3, hl142_2, hi142_2⟩ := at_T43 HR0.out x4_1 p142 q142
                  cases e142
                  replace hx142_0 := (HB.out.cell (World.block_lt_of_cell? w _ hx142_0)).trans hx142_0
                  replace hx142_1 := (HB.out.cell (World.block_lt_of_cell? w _ hx142_1)).trans hx142_1
                  replace hx142_2 := (HB.out.cell (World.block_lt_of_cell? w _ hx142_2)).trans hx142_2
                  replace hx142_3 := (HB.out.cell (World.block_lt_of_cell? w _ hx142_3)).trans hx142_3
                  have HR142_2 := Aside0.mk hi142_2
                  have HC142_2 := Aside0.mk hl142_2
                  clear hi142_2 hl142_2
                  replace p142 := eq_true p142
                  replace q142 := eq_true q142
                  go_wp2_with (first | ((with_reducible refine gate_dst (N := 5) rfl ?_); (try (refine gate_guard (by rfl) ?_; dsimp only)); refine box_event ?hg (N := 5) ?hd (cs := #[.int .i64 0, .int .i64 0, .slice none 0 0, .bool false]) (t := 43) ?hr ?_; (case hd => rfl); (case hg => rfl); (case hr => first | (go_simp; done) | (go_simp; rfl)); intro gb143 hg w16 hbox hb; have n0_ := Aside0.mk (below_step (by repeat (first | (with_reducible first | exact HB.out | apply below_alloc | apply pw_below_drewN | apply below_drew1) | exact HB.out)) hb); have n1_ := Aside0.mk (hbox); have n2_ := Aside0.mk ((by rw [hg]; exact (below_size (by repeat (first | (with_reducible first | exact HB.out | apply below_alloc | apply pw_below_drewN | apply below_drew1) | exact HB.out))) : w.heap.size ≤ gb143)); have n3_ := Aside0.mk ((by rw [hg]; exact (below_size (by repeat (first | (with_reducible first | exact HB.out | apply below_alloc | apply pw_below_drewN | apply below_drew1) | exact HB.out))) : w.heap.size ≤ gb143)); clear HB; have HB := n0_; have BK143 := n1_; have GW143 := n2_; have GE143 := n3_; clear n0_ n1_ n2_ n3_; clear hb hbox hg; have hcz17_0 : w16.cell? ⟨gb143, 0, none⟩ = some (.int .i64 0) := (blk_cell BK143.out 0).trans rfl; have hcz17_1 : w16.cell? ⟨gb143, 1, none⟩ = some (.int .i64 0) := (blk_cell BK143.out 1).trans rfl; have hcz17_2 : w16.cell? ⟨gb143, 2, none⟩ = some (.slice none 0 0) := (blk_cell BK143.out 2).trans rfl; have hcz17_3 : w16.cell? ⟨gb143, 3, none⟩ = some (.bool false) := (blk_cell BK143.out 3).trans rfl; have hfz17_0 := blk_frozen BK143.out 0; have hfz17_1 := blk_frozen BK143.out 1; have hfz17_2 := blk_frozen BK143.out 2; have hfz17_3 := blk_frozen BK143.out 3) | (go_at_call 65; (with_reducible refine (spec_l00In.calls ((rd_T43 l0 x4_1).f1) ((rd_T43 l0 x4_1).f0) 60 true _ A6.out).mono ?_); rintro e w' ⟨rfl, ⟨nd, rfl⟩⟩; (try first | exact ⟨rfl, _, World.drewN_drewN _ _ _⟩ | exact ⟨rfl, _, Eq.trans (World.drewN_drewN _ _ _) (congrArg (World.drewN _) (Nat.add_assoc _ _ _))⟩)) | (go_at_call 46; (with_reducible refine (spec_l12Ok.calls k1 _ _ ((rd_T43 l0 x4_1).f2) false _ ?side1 ?side2 A8.out).mono ?_); (case side1 => exact Kd.C_below HR142_2.out (by repeat (first | (with_reducible first | exact HB.out | apply below_alloc | apply pw_below_drewN | apply below_drew1 | refine below_set ?_ GE143.out) | exact HB.out))); (case side2 => exact HC142_2.out); rintro e w' ⟨rfl, ⟨nd, rfl⟩⟩; (try first | exact ⟨rfl, _, World.drewN_drewN _ _ _⟩ | exact ⟨rfl, _, Eq.trans (World.drewN_drewN _ _ _) (congrArg (World.drewN _) (Nat.add_assoc _ _ _))⟩)))
                  repeat (go_quiet (first | ((with_reducible refine gate_dst (N := 5) rfl ?_); (try (refine gate_guard (by rfl) ?_; dsimp only)); refine box_event ?hg (N := 5) ?hd (cs := #[.int .i64 0, .int .i64 0, .slice none 0 0, .bool false]) (t := 43) ?hr ?_; (case hd => rfl); (case hg => rfl); (case hr => first | (go_simp; done) | (go_simp; rfl)); intro gb143 hg w16 hbox hb; have n0_ := Aside0.mk (below_step (by repeat (first | (with_reducible first | exact HB.out | apply below_alloc | apply pw_below_drewN | apply below_drew1) | exact HB.out)) hb); have n1_ := Aside0.mk (hbox); have n2_ := Aside0.mk ((by rw [hg]; exact (below_size (by repeat (first | (with_reducible first | exact HB.out | apply below_alloc | apply pw_below_drewN | apply below_drew1) | exact HB.out))) : w.heap.size ≤ gb143)); have n3_ := Aside0.mk ((by rw [hg]; exact (below_size (by repeat (first | (with_reducible first | exact HB.out | apply below_alloc | apply pw_below_drewN | apply below_drew1) | exact HB.out))) : w.heap.size ≤ gb143)); clear HB; have HB := n0_; have BK143 := n1_; have GW143 := n2_; have GE143 := n3_; clear n0_ n1_ n2_ n3_; clear hb hbox hg; have hcz17_0 : w16.cell? ⟨gb143, 0, none⟩ = some (.int .i64 0) := (blk_cell BK143.out 0).trans rfl; have hcz17_1 : w16.cell? ⟨gb143, 1, none⟩ = some (.int .i64 0) := (blk_cell BK143.out 1).trans rfl; have hcz17_2 : w16.cell? ⟨gb143, 2, none⟩ = some (.slice none 0 0) := (blk_cell BK143.out 2).trans rfl; have hcz17_3 : w16.cell? ⟨gb143, 3, none⟩ = some (.bool false) := (blk_cell BK143.out 3).trans rfl; have hfz17_0 := blk_frozen BK143.out 0; have hfz17_1 := blk_frozen BK143.out 1; have hfz17_2 := blk_frozen BK143.out 2; have hfz17_3 := blk_frozen BK143.out 3) | (go_at_call 65; (with_reducible refine (spec_l00In.calls ((rd_T43 l0 x4_1).f1) ((rd_T43 l0 x4_1).f0) 60 true _ A6.out).mono ?_); rintro e w' ⟨rfl, ⟨nd, rfl⟩⟩; (try first | exact ⟨rfl, _, World.drewN_drewN _ _ _⟩ | exact ⟨rfl, _, Eq.trans (World.drewN_drewN _ _ _) (congrArg (World.drewN _) (Nat.add_assoc _ _ _))⟩)) | (go_at_call 46; (with_reducible refine (spec_l12Ok.calls k1 _ _ ((rd_T43 l0 x4_1).f2) false _ ?side1 ?side2 A8.out).mono ?_); (case side1 => exact Kd.C_below HR142_2.out (by repeat (first | (with_reducible first | exact HB.out | apply below_alloc | apply pw_below_drewN | apply below_drew1 | refine below_set ?_ GE143.out) | exact HB.out))); (case side2 => exact HC142_2.out); rintro e w' ⟨rfl, ⟨nd, rfl⟩⟩; (try first | exact ⟨rfl, _, World.drewN_drewN _ _ _⟩ | exact ⟨rfl, _, Eq.trans (World.drewN_drewN _ _ _) (congrArg (World.drewN _) (Nat.add_assoc _ _ _))⟩))); try go_wp2_with (first | ((with_reducible refine gate_dst (N := 5) rfl ?_); (try (refine gate_guard (by rfl) ?_; dsimp only)); refine box_event ?hg (N := 5) ?hd (cs := #[.int .i64 0, .int .i64 0, .slice none 0 0, .bool false]) (t := 43) ?hr ?_; (case hd => rfl); (case hg => rfl); (case hr => first | (go_simp; done) | (go_simp; rfl)); intro gb143 hg w16 hbox hb; have n0_ := Aside0.mk (below_step (by repeat (first | (with_reducible first | exact HB.out | apply below_alloc | apply pw_below_drewN | apply below_drew1) | exact HB.out)) hb); have n1_ := Aside0.mk (hbox); have n2_ := Aside0.mk ((by rw [hg]; exact (below_size (by repeat (first | (with_reducible first | exact HB.out | apply below_alloc | apply pw_below_drewN | apply below_drew1) | exact HB.out))) : w.heap.size ≤ gb143)); have n3_ := Aside0.mk ((by rw [hg]; exact (below_size (by repeat (first | (with_reducible first | exact HB.out | apply below_alloc | apply pw_below_drewN | apply below_drew1) | exact HB.out))) : w.heap.size ≤ gb143)); clear HB; have HB := n0_; have BK143 := n1_; have GW143 := n2_; have GE143 := n3_; clear n0_ n1_ n2_ n3_; clear hb hbox hg; have hcz17_0 : w16.cell? ⟨gb143, 0, none⟩ = some (.int .i64 0) := (blk_cell BK143.out 0).trans rfl; have hcz17_1 : w16.cell? ⟨gb143, 1, none⟩ = some (.int .i64 0) := (blk_cell BK143.out 1).trans rfl; have hcz17_2 : w16.cell? ⟨gb143, 2, none⟩ = some (.slice none 0 0) := (blk_cell BK143.out 2).trans rfl; have hcz17_3 : w16.cell? ⟨gb143, 3, none⟩ = some (.bool false) := (blk_cell BK143.out 3).trans rfl; have hfz17_0 := blk_frozen BK143.out 0; have hfz17_1 := blk_frozen BK143.out 1; have hfz17_2 := blk_frozen BK143.out 2; have hfz17_3 := blk_frozen BK143.out 3) | (go_at_call 65; (with_reducible refine (spec_l00In.calls ((rd_T43 l0 x4_1).f1) ((rd_T43 l0 x4_1).f0) 60 true _ A6.out).mono ?_); rintro e w' ⟨rfl, ⟨nd, rfl⟩⟩; (try first | exact ⟨rfl, _, World.drewN_drewN _ _ _⟩ | exact ⟨rfl, _, Eq.trans (World.drewN_drewN _ _ _) (congrArg (World.drewN _) (Nat.add_assoc _ _ _))⟩)) | (go_at_call 46; (with_reducible refine (spec_l12Ok.calls k1 _ _ ((rd_T43 l0 x4_1).f2) false _ ?side1 ?side2 A8.out).mono ?_); (case side1 => exact Kd.C_below HR142_2.out (by repeat (first | (with_reducible first | exact HB.out | apply below_alloc | apply pw_below_drewN | apply below_drew1 | refine below_set ?_ GE143.out) | exact HB.out))); (case side2 => exact HC142_2.out); rintro e w' ⟨rfl, ⟨nd, rfl⟩⟩; (try first | exact ⟨rfl, _, World.drewN_drewN _ _ _⟩ | exact ⟨rfl, _, Eq.trans (World.drewN_drewN _ _ _) (congrArg (World.drewN _) (Nat.add_assoc _ _ _))⟩))))
                  go_ret
                  exact ⟨by first | rfl | (simp [errW_none, errW_some] <;> rfl) | (simp [*, errW_none, errW_some] <;> rfl), by repeat (first | (with_reducible first | exact HB.out | apply below_alloc | apply pw_below_drewN | apply below_drew1 | refine below_set ?_ GE143.out) | exact HB.out)⟩
              · replace c7 := Bool.eq_false_iff.mpr c7
                subst c7
                have H1 : (some false) = some r := by rw [if_neg (show ¬ (false = true) by decide)] at H; exact H
                clear H
                have H := H1
                clear H1
                obtain rfl := Option.some.inj H
                have p142 : 0 ≤ (x4_1 : Int) := of_decide_eq_true (by first | (with_reducible assumption) | assumption)
                have q142 : x4_1 < (l0.length : Int) := of_decide_eq_true (by first | (with_reducible assumption) | assumption)
                obtain ⟨ad142, A142_2, c142_2, e142, hx142_0, hx142_1, hx142_2, hx142_3, hl142_2, hi142_2⟩ := at_T43 HR0.out x4_1 p142 q142
                cases e142
                replace hx142_0 := (HB.out.cell (World.block_lt_of_cell? w _ hx142_0)).trans hx142_0
                replace hx142_1 := (HB.out.cell (World.block_lt_of_cell? w _ hx142_1)).trans hx142_1
                replace hx142_2 := (HB.out.cell (World.block_lt_of_cell? w _ hx142_2)).trans hx142_2
                replace hx142_3 := (HB.out.cell (World.block_lt_of_cell? w _ hx142_3)).trans hx142_3
                have HR142_2 := Aside0.mk hi142_2
                have HC142_2 := Aside0.mk hl142_2
                clear hi142_2 hl142_2
                replace p142 := eq_true p142
                replace q142 := eq_true q142
                go_wp2_with (first | ((with_reducible refine gate_dst (N := 5) rfl ?_); (try (refine gate_guard (by rfl) ?_; dsimp only)); refine box_event ?hg (N := 5) ?hd (cs := #[.int .i64 0, .int .i64 0, .slice none 0 0, .bool false]) (t := 43) ?hr ?_; (case hd => rfl); (case hg => rfl); (case hr => first | (go_simp; done) | (go_simp; rfl)); intro gb143 hg w18 hbox hb; have n0_ := Aside0.mk (below_step (by repeat (first | (with_reducible first | exact HB.out | apply below_alloc | apply pw_below_drewN | apply below_drew1) | exact HB.out)) hb); have n1_ := Aside0.mk (hbox); have n2_ := Aside0.mk ((by rw [hg]; exact (below_size (by repeat (first | (with_reducible first | exact HB.out | apply below_alloc | apply pw_below_drewN | apply below_drew1) | exact HB.out))) : w.heap.size ≤ gb143)); have n3_ := Aside0.mk ((by rw [hg]; exact (below_size (by repeat (first | (with_reducible first | exact HB.out | apply below_alloc | apply pw_below_drewN | apply below_drew1) | exact HB.out))) : w.heap.size ≤ gb143)); clear HB; have HB := n0_; have BK143 := n1_; have GW143 := n2_; have GE143 := n3_; clear n0_ n1_ n2_ n3_; clear hb hbox hg; have hcz19_0 : w18.cell? ⟨gb143, 0, none⟩ = some (.int .i64 0) := (blk_cell BK143.out 0).trans rfl; have hcz19_1 : w18.cell? ⟨gb143, 1, none⟩ = some (.int .i64 0) := (blk_cell BK143.out 1).trans rfl; have hcz19_2 : w18.cell? ⟨gb143, 2, none⟩ = some (.slice none 0 0) := (blk_cell BK143.out 2).trans rfl; have hcz19_3 : w18.cell? ⟨gb143, 3, none⟩ = some (.bool false) := (blk_cell BK143.out 3).trans rfl; have hfz19_0 := blk_frozen BK143.out 0; have hfz19_1 := blk_frozen BK143.out 1; have hfz19_2 := blk_frozen BK143.out 2; have hfz19_3 := blk_frozen BK143.out 3) | (go_at_call 65; (with_reducible refine (spec_l00In.calls ((rd_T43 l0 x4_1).f1) ((rd_T43 l0 x4_1).f0) 60 false _ A6.out).mono ?_); rintro e w' ⟨rfl, ⟨nd, rfl⟩⟩; (try first | exact ⟨rfl, _, World.drewN_drewN _ _ _⟩ | exact ⟨rfl, _, Eq.trans (World.drewN_drewN _ _ _) (congrArg (World.drewN _) (Nat.add_assoc _ _ _))⟩)))
                repeat (go_quiet (first | ((with_reducible refine gate_dst (N := 5) rfl ?_); (try (refine gate_guard (by rfl) ?_; dsimp only)); refine box_event ?hg (N := 5) ?hd (cs := #[.int .i64 0, .int .i64 0, .slice none 0 0, .bool false]) (t := 43) ?hr ?_; (case hd => rfl); (case hg => rfl); (case hr => first | (go_simp; done) | (go_simp; rfl)); intro gb143 hg w18 hbox hb; have n0_ := Aside0.mk (below_step (by repeat (first | (with_reducible first | exact HB.out | apply below_alloc | apply pw_below_drewN | apply below_drew1) | exact HB.out)) hb); have n1_ := Aside0.mk (hbox); have n2_ := Aside0.mk ((by rw [hg]; exact (below_size (by repeat (first | (with_reducible first | exact HB.out | apply below_alloc | apply pw_below_drewN | apply below_drew1) | exact HB.out))) : w.heap.size ≤ gb143)); have n3_ := Aside0.mk ((by rw [hg]; exact (below_size (by repeat (first | (with_reducible first | exact HB.out | apply below_alloc | apply pw_below_drewN | apply below_drew1) | exact HB.out))) : w.heap.size ≤ gb143)); clear HB; have HB := n0_; have BK143 := n1_; have GW143 := n2_; have GE143 := n3_; clear n0_ n1_ n2_ n3_; clear hb hbox hg; have hcz19_0 : w18.cell? ⟨gb143, 0, none⟩ = some (.int .i64 0) := (blk_cell BK143.out 0).trans rfl; have hcz19_1 : w18.cell? ⟨gb143, 1, none⟩ = some (.int .i64 0) := (blk_cell BK143.out 1).trans rfl; have hcz19_2 : w18.cell? ⟨gb143, 2, none⟩ = some (.slice none 0 0) := (blk_cell BK143.out 2).trans rfl; have hcz19_3 : w18.cell? ⟨gb143, 3, none⟩ = some (.bool false) := (blk_cell BK143.out 3).trans rfl; have hfz19_0 := blk_frozen BK143.out 0; have hfz19_1 := blk_frozen BK143.out 1; have hfz19_2 := blk_frozen BK143.out 2; have hfz19_3 := blk_frozen BK143.out 3) | (go_at_call 65; (with_reducible refine (spec_l00In.calls ((rd_T43 l0 x4_1).f1) ((rd_T43 l0 x4_1).f0) 60 false _ A6.out).mono ?_); rintro e w' ⟨rfl, ⟨nd, rfl⟩⟩; (try first | exact ⟨rfl, _, World.drewN_drewN _ _ _⟩ | exact ⟨rfl, _, Eq.trans (World.drewN_drewN _ _ _) (congrArg (World.drewN _) (Nat.add_assoc _ _ _))⟩))); try go_wp2_with (first | ((with_reducible refine gate_dst (N := 5) rfl ?_); (try (refine gate_guard (by rfl) ?_; dsimp only)); refine box_event ?hg (N := 5) ?hd (cs := #[.int .i64 0, .int .i64 0, .slice none 0 0, .bool false]) (t := 43) ?hr ?_; (case hd => rfl); (case hg => rfl); (case hr => first | (go_simp; done) | (go_simp; rfl)); intro gb143 hg w18 hbox hb; have n0_ := Aside0.mk (below_step (by repeat (first | (with_reducible first | exact HB.out | apply below_alloc | apply pw_below_drewN | apply below_drew1) | exact HB.out)) hb); have n1_ := Aside0.mk (hbox); have n2_ := Aside0.mk ((by rw [hg]; exact (below_size (by repeat (first | (with_reducible first | exact HB.out | apply below_alloc | apply pw_below_drewN | apply below_drew1) | exact HB.out))) : w.heap.size ≤ gb143)); have n3_ := Aside0.mk ((by rw [hg]; exact (below_size (by repeat (first | (with_reducible first | exact HB.out | apply below_alloc | apply pw_below_drewN | apply below_drew1) | exact HB.out))) : w.heap.size ≤ gb143)); clear HB; have HB := n0_; have BK143 := n1_; have GW143 := n2_; have GE143 := n3_; clear n0_ n1_ n2_ n3_; clear hb hbox hg; have hcz19_0 : w18.cell? ⟨gb143, 0, none⟩ = some (.int .i64 0) := (blk_cell BK143.out 0).trans rfl; have hcz19_1 : w18.cell? ⟨gb143, 1, none⟩ = some (.int .i64 0) := (blk_cell BK143.out 1).trans rfl; have hcz19_2 : w18.cell? ⟨gb143, 2, none⟩ = some (.slice none 0 0) := (blk_cell BK143.out 2).trans rfl; have hcz19_3 : w18.cell? ⟨gb143, 3, none⟩ = some (.bool false) := (blk_cell BK143.out 3).trans rfl; have hfz19_0 := blk_frozen BK143.out 0; have hfz19_1 := blk_frozen BK143.out 1; have hfz19_2 := blk_frozen BK143.out 2; have hfz19_3 := blk_frozen BK143.out 3) | (go_at_call 65; (with_reducible refine (spec_l00In.calls ((rd_T43 l0 x4_1).f1) ((rd_T43 l0 x4_1).f0) 60 false _ A6.out).mono ?_); rintro e w' ⟨rfl, ⟨nd, rfl⟩⟩; (try first | exact ⟨rfl, _, World.drewN_drewN _ _ _⟩ | exact ⟨rfl, _, Eq.trans (World.drewN_drewN _ _ _) (congrArg (World.drewN _) (Nat.add_assoc _ _ _))⟩))))
                go_ret
                exact ⟨by first | rfl | (simp [errW_none, errW_some] <;> rfl) | (simp [*, errW_none, errW_some] <;> rfl), by repeat (first | (with_reducible first | exact HB.out | apply below_alloc | apply pw_below_drewN | apply below_drew1 | refine below_set ?_ GE143.out) | exact HB.out)⟩
            · rw [if_neg c5] at H
              have c5b0 : (((rd_T43 l0 x4_1).f0) == x3_1) = false := beq_eq_false_iff_ne.mpr c5
              have c5b1 : (((rd_T43 l0 x4_1).f0) != x3_1) = true := bne_iff_ne.mpr c5
              obtain rfl := Option.some.inj H
              have p142 : 0 ≤ (x4_1 : Int) := of_decide_eq_true (by first | (with_reducible assumption) | assumption)
              have q142 : x4_1 < (l0.length : Int) := of_decide_eq_true (by first | (with_reducible assumption) | assumption)
              obtain ⟨ad142, A142_2, c142_2, e142, hx142_0, hx142_1, hx142_2, hx142_3, hl142_2, hi142_2⟩ := at_T43 HR0.out x4_1 p142 q142
              cases e142
              replace hx142_0 := (HB.out.cell (World.block_lt_of_cell? w _ hx142_0)).trans hx142_0
              replace hx142_1 := (HB.out.cell (World.block_lt_of_cell? w _ hx142_1)).trans hx142_1
              replace hx142_2 := (HB.out.cell (World.block_lt_of_cell? w _ hx142_2)).trans hx142_2
              replace hx142_3 := (HB.out.cell (World.block_lt_of_cell? w _ hx142_3)).trans hx142_3
              have HR142_2 := Aside0.mk hi142_2
              have HC142_2 := Aside0.mk hl142_2
              clear hi142_2 hl142_2
              replace p142 := eq_true p142
              replace q142 := eq_true q142
              go_wp2_with (first | ((with_reducible refine gate_dst (N := 5) rfl ?_); (try (refine gate_guard (by rfl) ?_; dsimp only)); refine box_event ?hg (N := 5) ?hd (cs := #[.int .i64 0, .int .i64 0, .slice none 0 0, .bool false]) (t := 43) ?hr ?_; (case hd => rfl); (case hg => rfl); (case hr => first | (go_simp; done) | (go_simp; rfl)); intro gb143 hg w20 hbox hb; have n0_ := Aside0.mk (below_step (by repeat (first | (with_reducible first | exact HB.out | apply below_alloc | apply pw_below_drewN | apply below_drew1) | exact HB.out)) hb); have n1_ := Aside0.mk (hbox); have n2_ := Aside0.mk ((by rw [hg]; exact (below_size (by repeat (first | (with_reducible first | exact HB.out | apply below_alloc | apply pw_below_drewN | apply below_drew1) | exact HB.out))) : w.heap.size ≤ gb143)); have n3_ := Aside0.mk ((by rw [hg]; exact (below_size (by repeat (first | (with_reducible first | exact HB.out | apply below_alloc | apply pw_below_drewN | apply below_drew1) | exact HB.out))) : w.heap.size ≤ gb143)); clear HB; have HB := n0_; have BK143 := n1_; have GW143 := n2_; have GE143 := n3_; clear n0_ n1_ n2_ n3_; clear hb hbox hg; have hcz21_0 : w20.cell? ⟨gb143, 0, none⟩ = some (.int .i64 0) := (blk_cell BK143.out 0).trans rfl; have hcz21_1 : w20.cell? ⟨gb143, 1, none⟩ = some (.int .i64 0) := (blk_cell BK143.out 1).trans rfl; have hcz21_2 : w20.cell? ⟨gb143, 2, none⟩ = some (.slice none 0 0) := (blk_cell BK143.out 2).trans rfl; have hcz21_3 : w20.cell? ⟨gb143, 3, none⟩ = some (.bool false) := (blk_cell BK143.out 3).trans rfl; have hfz21_0 := blk_frozen BK143.out 0; have hfz21_1 := blk_frozen BK143.out 1; have hfz21_2 := blk_frozen BK143.out 2; have hfz21_3 := blk_frozen BK143.out 3))
              repeat (go_quiet (first | ((with_reducible refine gate_dst (N := 5) rfl ?_); (try (refine gate_guard (by rfl) ?_; dsimp only)); refine box_event ?hg (N := 5) ?hd (cs := #[.int .i64 0, .int .i64 0, .slice none 0 0, .bool false]) (t := 43) ?hr ?_; (case hd => rfl); (case hg => rfl); (case hr => first | (go_simp; done) | (go_simp; rfl)); intro gb143 hg w20 hbox hb; have n0_ := Aside0.mk (below_step (by repeat (first | (with_reducible first | exact HB.out | apply below_alloc | apply pw_below_drewN | apply below_drew1) | exact HB.out)) hb); have n1_ := Aside0.mk (hbox); have n2_ := Aside0.mk ((by rw [hg]; exact (below_size (by repeat (first | (with_reducible first | exact HB.out | apply below_alloc | apply pw_below_drewN | apply below_drew1) | exact HB.out))) : w.heap.size ≤ gb143)); have n3_ := Aside0.mk ((by rw [hg]; exact (below_size (by repeat (first | (with_reducible first | exact HB.out | apply below_alloc | apply pw_below_drewN | apply below_drew1) | exact HB.out))) : w.heap.size ≤ gb143)); clear HB; have HB := n0_; have BK143 := n1_; have GW143 := n2_; have GE143 := n3_; clear n0_ n1_ n2_ n3_; clear hb hbox hg; have hcz21_0 : w20.cell? ⟨gb143, 0, none⟩ = some (.int .i64 0) := (blk_cell BK143.out 0).trans rfl; have hcz21_1 : w20.cell? ⟨gb143, 1, none⟩ = some (.int .i64 0) := (blk_cell BK143.out 1).trans rfl; have hcz21_2 : w20.cell? ⟨gb143, 2, none⟩ = some (.slice none 0 0) := (blk_cell BK143.out 2).trans rfl; have hcz21_3 : w20.cell? ⟨gb143, 3, none⟩ = some (.bool false) := (blk_cell BK143.out 3).trans rfl; have hfz21_0 := blk_frozen BK143.out 0; have hfz21_1 := blk_frozen BK143.out 1; have hfz21_2 := blk_frozen BK143.out 2; have hfz21_3 := blk_frozen BK143.out 3)); try go_wp2_with (first | ((with_reducible refine gate_dst (N := 5) rfl ?_); (try (refine gate_guard (by rfl) ?_; dsimp only)); refine box_event ?hg (N := 5) ?hd (cs := #[.int .i64 0, .int .i64 0, .slice none 0 0, .bool false]) (t := 43) ?hr ?_; (case hd => rfl); (case hg => rfl); (case hr => first | (go_simp; done) | (go_simp; rfl)); intro gb143 hg w20 hbox hb; have n0_ := Aside0.mk (below_step (by repeat (first | (with_reducible first | exact HB.out | apply below_alloc | apply pw_below_drewN | apply below_drew1) | exact HB.out)) hb); have n1_ := Aside0.mk (hbox); have n2_ := Aside0.mk ((by rw [hg]; exact (below_size (by repeat (first | (with_reducible first | exact HB.out | apply below_alloc | apply pw_below_drewN | apply below_drew1) | exact HB.out))) : w.heap.size ≤ gb143)); have n3_ := Aside0.mk ((by rw [hg]; exact (below_size (by repeat (first | (with_reducible first | exact HB.out | apply below_alloc | apply pw_below_drewN | apply below_drew1) | exact HB.out))) : w.heap.size ≤ gb143)); clear HB; have HB := n0_; have BK143 := n1_; have GW143 := n2_; have GE143 := n3_; clear n0_ n1_ n2_ n3_; clear hb hbox hg; have hcz21_0 : w20.cell? ⟨gb143, 0, none⟩ = some (.int .i64 0) := (blk_cell BK143.out 0).trans rfl; have hcz21_1 : w20.cell? ⟨gb143, 1, none⟩ = some (.int .i64 0) := (blk_cell BK143.out 1).trans rfl; have hcz21_2 : w20.cell? ⟨gb143, 2, none⟩ = some (.slice none 0 0) := (blk_cell BK143.out 2).trans rfl; have hcz21_3 : w20.cell? ⟨gb143, 3, none⟩ = some (.bool false) := (blk_cell BK143.out 3).trans rfl; have hfz21_0 := blk_frozen BK143.out 0; have hfz21_1 := blk_frozen BK143.out 1; have hfz21_2 := blk_frozen BK143.out 2; have hfz21_3 := blk_frozen BK143.out 3)))
              go_ret
              exact ⟨by first | rfl | (simp [errW_none, errW_some] <;> rfl) | (simp [*, errW_none, errW_some] <;> rfl), by repeat (first | (with_reducible first | exact HB.out | apply below_alloc | apply pw_below_drewN | apply below_drew1 | refine below_set ?_ GE143.out) | exact HB.out)⟩
          · rw [if_neg c4] at H
            exact absurd H (by simp)
        · rw [if_neg c3] at H
          have c3b0 : decide (x4_1 < (l0.length : Int)) = false := decide_eq_false c3
          clear c3
          obtain rfl := Option.some.inj H
          go_wp2
          repeat (go_quiet (fail); try go_wp2)
          go_ret
          exact ⟨by first | rfl | (simp [errW_none, errW_some] <;> rfl) | (simp [*, errW_none, errW_some] <;> rfl), by repeat (first | (with_reducible first | exact HB.out | apply below_alloc | apply pw_below_drewN | apply below_drew1) | exact HB.out)⟩

/-! ### spec_l00Rises: function 81 -/
def spec_l00Rises.l0 : Nat → List Int → Int → Int → Int → Option (Bool)
  | 0, _, _, _, _ => none
  | k + 1, x0, x1, x2, x7 => if x7 < (x0.length : Int) then (if 0 ≤ x7 then ((spec_l00In.f (rd x0 x7) x1 x2).bind fun t148 => (if t148 = true then (if x7 > 0 then (if 0 ≤ (wrap64 (x7 - 1)) then (if (wrap64 (x7 - 1)) < (x0.length : Int) then (if (rd x0 (wrap64 (x7 - 1))) ≥ (rd x0 x7) then (some false) else (spec_l00Rises.l0 k x0 x1 x2 (wrap64 (x7 + 1)))) else (none)) else (none)) else (spec_l00Rises.l0 k x0 x1 x2 (wrap64 (x7 + 1)))) else (some false))) else (none)) else (some true)
def spec_l00Rises.f (k : Nat) (l0 : List Int) (a1 : Int) (a2 : Int) : Option (Bool) := spec_l00Rises.l0 k l0 a1 a2 0
theorem spec_l00Rises.mono_l : ∀ k, (∀ y0 y1 y2 y3, LeO (spec_l00Rises.l0 k y0 y1 y2 y3) (spec_l00Rises.l0 (k + 1) y0 y1 y2 y3))
  | 0 => fun _ _ _ _ r h => by simp [spec_l00Rises.l0] at h
  | k + 1 => by
    have ih0 := spec_l00Rises.mono_l k
    · intro y0 y1 y2 y3
      unfold spec_l00Rises.l0
      repeat' first
      | (with_reducible exact ih0 _ _ _ _)
      | (with_reducible exact LeO.refl _)
      | (with_reducible exact LeO.none _)
      | (with_reducible refine LeO.ite ?_ ?_)
      | (with_reducible refine LeO.bind ?_ (fun _ => ?_))
      | exact ih0 _ _ _ _
      | exact LeO.none _
      | refine LeO.ite ?_ ?_
      | refine LeO.bind ?_ (fun _ => ?_)
theorem spec_l00Rises.mono : ∀ a0 a1 a2 k, LeO (spec_l00Rises.f k a0 a1 a2) (spec_l00Rises.f (k + 1) a0 a1 a2) := by
  intro a0 a1 a2 k
  have ih0 := spec_l00Rises.mono_l k
  unfold spec_l00Rises.f
  repeat' first
      | (with_reducible exact ih0 _ _ _ _)
      | (with_reducible exact LeO.refl _)
      | (with_reducible exact LeO.none _)
      | (with_reducible refine LeO.ite ?_ ?_)
      | (with_reducible refine LeO.bind ?_ (fun _ => ?_))
      | exact ih0 _ _ _ _
      | exact LeO.none _
      | refine LeO.ite ?_ ?_
      | refine LeO.bind ?_ (fun _ => ?_)
set_option maxHeartbeats 8000000 in
set_option maxRecDepth 100000 in
theorem spec_l00Rises.calls (k : Nat) (A0 : Option Addr) (c0 : Nat) (l0 : List Int) (a1 : Int) (a2 : Int) (r : Bool) (w : World) (hr0 : Kd.C (Kd.int .i64) w A0 l0.length l0) (hc0 : l0.length ≤ c0) (h : spec_l00Rises.f k l0 a1 a2 = some r) :
    Calls Try.prog 81 #[.slice A0 l0.length c0, .int .i64 a1, .int .i64 a2] w fun e w' => e = .returned (.bool r) ∧ Drawn0 w w' := by
  have HR0 := Aside0.mk hr0
  have HC0 := Aside0.mk hc0
  clear hr0 hc0
  have H : (spec_l00Rises.l0 k l0 a1 a2 0) = some r := h
  clear h
  have H' := Aside0.mk H
  clear H
  go_enter Try.func81, Try.ntmps81
  go_wp2
  repeat (go_quiet (fail); try go_wp2)
  go_loopg [7] k (fun kq v7 w' => ∃ (x7_1 : Int), v7 = .int .i64 x7_1 ∧ Aside0 (spec_l00Rises.l0 kq l0 a1 a2 x7_1 = some r) ∧ Aside0 (kq ≤ k) ∧ Drawn0 w w')
  case atStart => exact ⟨(0), (by first | rfl | (simp; done) | (simp [*]; done)), H', ⟨Nat.le_refl _⟩, by repeat (first | exact Drawn0.refl _ | apply Drawn0.step)⟩
  case round =>
    clear H'
    try clear p2
    obtain ⟨x7_1, rfl, HA, HK1, ⟨m1, rfl⟩⟩ := hrel
    cases gk with
    | zero => exact absurd HA.out (by simp [spec_l00Rises.l0])
    | succ k1 =>
      have H := HA.out
      clear HA
      simp only [spec_l00Rises.l0] at H
      by_cases c4 : x7_1 < (l0.length : Int)
      · rw [if_pos c4] at H
        have c4b0 : decide (x7_1 < (l0.length : Int)) = true := decide_eq_true c4
        clear c4
        by_cases c5 : 0 ≤ x7_1
        · rw [if_pos c5] at H
          have c5b0 : decide (0 ≤ x7_1) = true := decide_eq_true c5
          clear c5
          replace H := Option.bind_eq_some_iff.mp H
          obtain ⟨t148, A60, H⟩ := H
          replace H : (if t148 = true then (if x7_1 > 0 then (if 0 ≤ (wrap64 (x7_1 - 1)) then (if (wrap64 (x7_1 - 1)) < (l0.length : Int) then (if (rd l0 (wrap64 (x7_1 - 1))) ≥ (rd l0 x7_1) then (some false) else (spec_l00Rises.l0 k1 l0 a1 a2 (wrap64 (x7_1 + 1)))) else (none)) else (none)) else (spec_l00Rises.l0 k1 l0 a1 a2 (wrap64 (x7_1 + 1)))) else (some false)) = some r := H
          have A6 := Aside0.mk A60
          clear A60
          by_cases c7 : t148 = true
          · subst c7
            have H1 : (if x7_1 > 0 then (if 0 ≤ (wrap64 (x7_1 - 1)) then (if (wrap64 (x7_1 - 1)) < (l0.length : Int) then (if (rd l0 (wrap64 (x7_1 - 1))) ≥ (rd l0 x7_1) then (some false) else (spec_l00Rises.l0 k1 l0 a1 a2 (wrap64 (x7_1 + 1)))) else (none)) else (none)) else (spec_l00Rises.l0 k1 l0 a1 a2 (wrap64 (x7_1 + 1)))) = some r := by rw [if_pos rfl] at H; exact H
            clear H
            have H := H1
            clear H1
            by_cases c8 : x7_1 > 0
            · rw [if_pos c8] at H
              have c8b0 : decide (0 < x7_1) = true := decide_eq_true c8
              clear c8
              obtain ⟨ji9, hji9⟩ : ∃ j_ : Int, (wrap64 (x7_1 - 1)) = j_ := ⟨_, rfl⟩
              replace H : (if 0 ≤ (ji9) then (if (ji9) < (l0.length : Int) then (if (rd l0 (ji9)) ≥ (rd l0 x7_1) then (some false) else (spec_l00Rises.l0 k1 l0 a1 a2 (wrap64 (x7_1 + 1)))) else (none)) else (none)) = some r := by first | (rw [hji9] at H; exact H) | (simp only [hji9] at H ⊢; exact H)
              (try rw [hji9] at A6)
              have hji9w : (IntKind.i64.wrap (x7_1 - 1)) = ji9 := (i64_w _).trans hji9
              by_cases c10 : 0 ≤ (ji9)
              · rw [if_pos c10] at H
                have c10b0 : decide (0 ≤ (ji9)) = true := decide_eq_true c10
                clear c10
                by_cases c11 : (ji9) < (l0.length : Int)
                · rw [if_pos c11] at H
                  have c11b0 : decide ((ji9) < (l0.length : Int)) = true := decide_eq_true c11
                  clear c11
                  by_cases c12 : (rd l0 (ji9)) ≥ (rd l0 x7_1)
                  · rw [if_pos c12] at H
                    have c12b0 : decide ((rd l0 x7_1) ≤ (rd l0 (ji9))) = true := decide_eq_true c12
                    clear c12
                    obtain rfl := Option.some.inj H
                    have p147 : 0 ≤ (x7_1 : Int) := of_decide_eq_true (by first | (with_reducible assumption) | assumption)
                    have q147 : x7_1 < (l0.length : Int) := of_decide_eq_true (by first | (with_reducible assumption) | assumption)
                    obtain ⟨ad147, e147, hx147_0⟩ := Kd.at_int HR0.out x7_1 p147 q147
                    cases e147
                    replace p147 := eq_true p147
                    replace q147 := eq_true q147
                    try (have p149 : 0 ≤ ((ji9) : Int) := of_decide_eq_true (by first | (with_reducible assumption) | assumption); have q149 : (ji9) < (l0.length : Int) := of_decide_eq_true (by first | (with_reducible assumption) | assumption); obtain ⟨ad149, e149, hx149_0⟩ := Kd.at_int HR0.out (ji9) p149 q149; obtain rfl : ad147 = ad149 := (by injection e149); replace p149 := eq_true p149; replace q149 := eq_true q149; have p150 : 0 ≤ (x7_1 : Int) := of_decide_eq_true (by first | (with_reducible assumption) | assumption); have q150 : x7_1 < (l0.length : Int) := of_decide_eq_true (by first | (with_reducible assumption) | assumption); obtain ⟨ad150, e150, hx150_0⟩ := Kd.at_int HR0.out x7_1 p150 q150; obtain rfl : ad147 = ad150 := (by injection e150); replace p150 := eq_true p150; replace q150 := eq_true q150)
                    go_wp2_with (first | (go_at_call 65; (with_reducible refine (spec_l00In.calls (rd l0 x7_1) a1 a2 true _ A6.out).mono ?_); rintro e w' ⟨rfl, ⟨nd, rfl⟩⟩; (try first | exact ⟨rfl, _, World.drewN_drewN _ _ _⟩ | exact ⟨rfl, _, Eq.trans (World.drewN_drewN _ _ _) (congrArg (World.drewN _) (Nat.add_assoc _ _ _))⟩); have p149 : 0 ≤ ((ji9) : Int) := of_decide_eq_true (by first | (with_reducible assumption) | assumption); have q149 : (ji9) < (l0.length : Int) := of_decide_eq_true (by first | (with_reducible assumption) | assumption); obtain ⟨ad149, e149, hx149_0⟩ := Kd.at_int HR0.out (ji9) p149 q149; obtain rfl : ad147 = ad149 := (by injection e149); replace p149 := eq_true p149; replace q149 := eq_true q149; have p150 : 0 ≤ (x7_1 : Int) := of_decide_eq_true (by first | (with_reducible assumption) | assumption); have q150 : x7_1 < (l0.length : Int) := of_decide_eq_true (by first | (with_reducible assumption) | assumption); obtain ⟨ad150, e150, hx150_0⟩ := Kd.at_int HR0.out x7_1 p150 q150; obtain rfl : ad147 = ad150 := (by injection e150); replace p150 := eq_true p150; replace q150 := eq_true q150))
                    first | (have hz_ := q150; clear hz_) | (have p149 : 0 ≤ ((ji9) : Int) := of_decide_eq_true (by first | (with_reducible assumption) | assumption); have q149 : (ji9) < (l0.length : Int) := of_decide_eq_true (by first | (with_reducible assumption) | assumption); obtain ⟨ad149, e149, hx149_0⟩ := Kd.at_int HR0.out (ji9) p149 q149; obtain rfl : ad147 = ad149 := (by injection e149); replace p149 := eq_true p149; replace q149 := eq_true q149; have p150 : 0 ≤ (x7_1 : Int) := of_decide_eq_true (by first | (with_reducible assumption) | assumption); have q150 : x7_1 < (l0.length : Int) := of_decide_eq_true (by first | (with_reducible assumption) | assumption); obtain ⟨ad150, e150, hx150_0⟩ := Kd.at_int HR0.out x7_1 p150 q150; obtain rfl : ad147 = ad150 := (by injection e150); replace p150 := eq_true p150; replace q150 := eq_true q150) | skip
                    repeat (go_quiet (first | (go_at_call 65; (with_reducible refine (spec_l00In.calls (rd l0 x7_1) a1 a2 true _ A6.out).mono ?_); rintro e w' ⟨rfl, ⟨nd, rfl⟩⟩; (try first | exact ⟨rfl, _, World.drewN_drewN _ _ _⟩ | exact ⟨rfl, _, Eq.trans (World.drewN_drewN _ _ _) (congrArg (World.drewN _) (Nat.add_assoc _ _ _))⟩))); try go_wp2_with (first | (go_at_call 65; (with_reducible refine (spec_l00In.calls (rd l0 x7_1) a1 a2 true _ A6.out).mono ?_); rintro e w' ⟨rfl, ⟨nd, rfl⟩⟩; (try first | exact ⟨rfl, _, World.drewN_drewN _ _ _⟩ | exact ⟨rfl, _, Eq.trans (World.drewN_drewN _ _ _) (congrArg (World.drewN _) (Nat.add_assoc _ _ _))⟩); have p149 : 0 ≤ ((ji9) : Int) := of_decide_eq_true (by first | (with_reducible assumption) | assumption); have q149 : (ji9) < (l0.length : Int) := of_decide_eq_true (by first | (with_reducible assumption) | assumption); obtain ⟨ad149, e149, hx149_0⟩ := Kd.at_int HR0.out (ji9) p149 q149; obtain rfl : ad147 = ad149 := (by injection e149); replace p149 := eq_true p149; replace q149 := eq_true q149; have p150 : 0 ≤ (x7_1 : Int) := of_decide_eq_true (by first | (with_reducible assumption) | assumption); have q150 : x7_1 < (l0.length : Int) := of_decide_eq_true (by first | (with_reducible assumption) | assumption); obtain ⟨ad150, e150, hx150_0⟩ := Kd.at_int HR0.out x7_1 p150 q150; obtain rfl : ad147 = ad150 := (by injection e150); replace p150 := eq_true p150; replace q150 := eq_true q150)))
                    go_ret
                    exact ⟨by first | rfl | (simp; done) | (simp only [← hji9] <;> (first | rfl | simp)) | (simp [*]; done), by repeat (first | exact Drawn0.refl _ | apply Drawn0.step)⟩
                  · rw [if_neg c12] at H
                    have c12b0 : decide ((rd l0 x7_1) ≤ (rd l0 (ji9))) = false := decide_eq_false c12
                    clear c12
                    have H' := Aside0.mk H
                    clear H
                    have p147 : 0 ≤ (x7_1 : Int) := of_decide_eq_true (by first | (with_reducible assumption) | assumption)
                    have q147 : x7_1 < (l0.length : Int) := of_decide_eq_true (by first | (with_reducible assumption) | assumption)
                    obtain ⟨ad147, e147, hx147_0⟩ := Kd.at_int HR0.out x7_1 p147 q147
                    cases e147
                    replace p147 := eq_true p147
                    replace q147 := eq_true q147
                    try (have p149 : 0 ≤ ((ji9) : Int) := of_decide_eq_true (by first | (with_reducible assumption) | assumption); have q149 : (ji9) < (l0.length : Int) := of_decide_eq_true (by first | (with_reducible assumption) | assumption); obtain ⟨ad149, e149, hx149_0⟩ := Kd.at_int HR0.out (ji9) p149 q149; obtain rfl : ad147 = ad149 := (by injection e149); replace p149 := eq_true p149; replace q149 := eq_true q149; have p150 : 0 ≤ (x7_1 : Int) := of_decide_eq_true (by first | (with_reducible assumption) | assumption); have q150 : x7_1 < (l0.length : Int) := of_decide_eq_true (by first | (with_reducible assumption) | assumption); obtain ⟨ad150, e150, hx150_0⟩ := Kd.at_int HR0.out x7_1 p150 q150; obtain rfl : ad147 = ad150 := (by injection e150); replace p150 := eq_true p150; replace q150 := eq_true q150)
                    go_wp2_with (first | (go_at_call 65; (with_reducible refine (spec_l00In.calls (rd l0 x7_1) a1 a2 true _ A6.out).mono ?_); rintro e w' ⟨rfl, ⟨nd, rfl⟩⟩; (try first | exact ⟨rfl, _, World.drewN_drewN _ _ _⟩ | exact ⟨rfl, _, Eq.trans (World.drewN_drewN _ _ _) (congrArg (World.drewN _) (Nat.add_assoc _ _ _))⟩); have p149 : 0 ≤ ((ji9) : Int) := of_decide_eq_true (by first | (with_reducible assumption) | assumption); have q149 : (ji9) < (l0.length : Int) := of_decide_eq_true (by first | (with_reducible assumption) | assumption); obtain ⟨ad149, e149, hx149_0⟩ := Kd.at_int HR0.out (ji9) p149 q149; obtain rfl : ad147 = ad149 := (by injection e149); replace p149 := eq_true p149; replace q149 := eq_true q149; have p150 : 0 ≤ (x7_1 : Int) := of_decide_eq_true (by first | (with_reducible assumption) | assumption); have q150 : x7_1 < (l0.length : Int) := of_decide_eq_true (by first | (with_reducible assumption) | assumption); obtain ⟨ad150, e150, hx150_0⟩ := Kd.at_int HR0.out x7_1 p150 q150; obtain rfl : ad147 = ad150 := (by injection e150); replace p150 := eq_true p150; replace q150 := eq_true q150))
                    first | (have hz_ := q150; clear hz_) | (have p149 : 0 ≤ ((ji9) : Int) := of_decide_eq_true (by first | (with_reducible assumption) | assumption); have q149 : (ji9) < (l0.length : Int) := of_decide_eq_true (by first | (with_reducible assumption) | assumption); obtain ⟨ad149, e149, hx149_0⟩ := Kd.at_int HR0.out (ji9) p149 q149; obtain rfl : ad147 = ad149 := (by injection e149); replace p149 := eq_true p149; replace q149 := eq_true q149; have p150 : 0 ≤ (x7_1 : Int) := of_decide_eq_true (by first | (with_reducible assumption) | assumption); have q150 : x7_1 < (l0.length : Int) := of_decide_eq_true (by first | (with_reducible assumption) | assumption); obtain ⟨ad150, e150, hx150_0⟩ := Kd.at_int HR0.out x7_1 p150 q150; obtain rfl : ad147 = ad150 := (by injection e150); replace p150 := eq_true p150; replace q150 := eq_true q150) | skip
                    repeat (go_quiet (first | (go_at_call 65; (with_reducible refine (spec_l00In.calls (rd l0 x7_1) a1 a2 true _ A6.out).mono ?_); rintro e w' ⟨rfl, ⟨nd, rfl⟩⟩; (try first | exact ⟨rfl, _, World.drewN_drewN _ _ _⟩ | exact ⟨rfl, _, Eq.trans (World.drewN_drewN _ _ _) (congrArg (World.drewN _) (Nat.add_assoc _ _ _))⟩))); try go_wp2_with (first | (go_at_call 65; (with_reducible refine (spec_l00In.calls (rd l0 x7_1) a1 a2 true _ A6.out).mono ?_); rintro e w' ⟨rfl, ⟨nd, rfl⟩⟩; (try first | exact ⟨rfl, _, World.drewN_drewN _ _ _⟩ | exact ⟨rfl, _, Eq.trans (World.drewN_drewN _ _ _) (congrArg (World.drewN _) (Nat.add_assoc _ _ _))⟩); have p149 : 0 ≤ ((ji9) : Int) := of_decide_eq_true (by first | (with_reducible assumption) | assumption); have q149 : (ji9) < (l0.length : Int) := of_decide_eq_true (by first | (with_reducible assumption) | assumption); obtain ⟨ad149, e149, hx149_0⟩ := Kd.at_int HR0.out (ji9) p149 q149; obtain rfl : ad147 = ad149 := (by injection e149); replace p149 := eq_true p149; replace q149 := eq_true q149; have p150 : 0 ≤ (x7_1 : Int) := of_decide_eq_true (by first | (with_reducible assumption) | assumption); have q150 : x7_1 < (l0.length : Int) := of_decide_eq_true (by first | (with_reducible assumption) | assumption); obtain ⟨ad150, e150, hx150_0⟩ := Kd.at_int HR0.out x7_1 p150 q150; obtain rfl : ad147 = ad150 := (by injection e150); replace p150 := eq_true p150; replace q150 := eq_true q150)))
                    go_roundg k1
                    case measure => have := HK1.out; omega
                    case rel => exact ⟨(wrap64 (x7_1 + 1)), (by first | rfl | (simp; done) | (simp [*]; done)), H', ⟨by have := HK1.out; omega⟩, by repeat (first | exact Drawn0.refl _ | apply Drawn0.step)⟩
                · rw [if_neg c11] at H
                  exact absurd H (by simp)
              · rw [if_neg c10] at H
                exact absurd H (by simp)
            · rw [if_neg c8] at H
              have c8b0 : decide (0 < x7_1) = false := decide_eq_false c8
              clear c8
              have H' := Aside0.mk H
              clear H
              have p147 : 0 ≤ (x7_1 : Int) := of_decide_eq_true (by first | (with_reducible assumption) | assumption)
              have q147 : x7_1 < (l0.length : Int) := of_decide_eq_true (by first | (with_reducible assumption) | assumption)
              obtain ⟨ad147, e147, hx147_0⟩ := Kd.at_int HR0.out x7_1 p147 q147
              cases e147
              replace p147 := eq_true p147
              replace q147 := eq_true q147
              go_wp2_with (first | (go_at_call 65; (with_reducible refine (spec_l00In.calls (rd l0 x7_1) a1 a2 true _ A6.out).mono ?_); rintro e w' ⟨rfl, ⟨nd, rfl⟩⟩; (try first | exact ⟨rfl, _, World.drewN_drewN _ _ _⟩ | exact ⟨rfl, _, Eq.trans (World.drewN_drewN _ _ _) (congrArg (World.drewN _) (Nat.add_assoc _ _ _))⟩)))
              repeat (go_quiet (first | (go_at_call 65; (with_reducible refine (spec_l00In.calls (rd l0 x7_1) a1 a2 true _ A6.out).mono ?_); rintro e w' ⟨rfl, ⟨nd, rfl⟩⟩; (try first | exact ⟨rfl, _, World.drewN_drewN _ _ _⟩ | exact ⟨rfl, _, Eq.trans (World.drewN_drewN _ _ _) (congrArg (World.drewN _) (Nat.add_assoc _ _ _))⟩))); try go_wp2_with (first | (go_at_call 65; (with_reducible refine (spec_l00In.calls (rd l0 x7_1) a1 a2 true _ A6.out).mono ?_); rintro e w' ⟨rfl, ⟨nd, rfl⟩⟩; (try first | exact ⟨rfl, _, World.drewN_drewN _ _ _⟩ | exact ⟨rfl, _, Eq.trans (World.drewN_drewN _ _ _) (congrArg (World.drewN _) (Nat.add_assoc _ _ _))⟩))))
              go_roundg k1
              case measure => have := HK1.out; omega
              case rel => exact ⟨(wrap64 (x7_1 + 1)), (by first | rfl | (simp; done) | (simp [*]; done)), H', ⟨by have := HK1.out; omega⟩, by repeat (first | exact Drawn0.refl _ | apply Drawn0.step)⟩
          · replace c7 := Bool.eq_false_iff.mpr c7
            subst c7
            have H1 : (some false) = some r := by rw [if_neg (show ¬ (false = true) by decide)] at H; exact H
            clear H
            have H := H1
            clear H1
            obtain rfl := Option.some.inj H
            have p147 : 0 ≤ (x7_1 : Int) := of_decide_eq_true (by first | (with_reducible assumption) | assumption)
            have q147 : x7_1 < (l0.length : Int) := of_decide_eq_true (by first | (with_reducible assumption) | assumption)
            obtain ⟨ad147, e147, hx147_0⟩ := Kd.at_int HR0.out x7_1 p147 q147
            cases e147
            replace p147 := eq_true p147
            replace q147 := eq_true q147
            go_wp2_with (first | (go_at_call 65; (with_reducible refine (spec_l00In.calls (rd l0 x7_1) a1 a2 false _ A6.out).mono ?_); rintro e w' ⟨rfl, ⟨nd, rfl⟩⟩; (try first | exact ⟨rfl, _, World.drewN_drewN _ _ _⟩ | exact ⟨rfl, _, Eq.trans (World.drewN_drewN _ _ _) (congrArg (World.drewN _) (Nat.add_assoc _ _ _))⟩)))
            repeat (go_quiet (first | (go_at_call 65; (with_reducible refine (spec_l00In.calls (rd l0 x7_1) a1 a2 false _ A6.out).mono ?_); rintro e w' ⟨rfl, ⟨nd, rfl⟩⟩; (try first | exact ⟨rfl, _, World.drewN_drewN _ _ _⟩ | exact ⟨rfl, _, Eq.trans (World.drewN_drewN _ _ _) (congrArg (World.drewN _) (Nat.add_assoc _ _ _))⟩))); try go_wp2_with (first | (go_at_call 65; (with_reducible refine (spec_l00In.calls (rd l0 x7_1) a1 a2 false _ A6.out).mono ?_); rintro e w' ⟨rfl, ⟨nd, rfl⟩⟩; (try first | exact ⟨rfl, _, World.drewN_drewN _ _ _⟩ | exact ⟨rfl, _, Eq.trans (World.drewN_drewN _ _ _) (congrArg (World.drewN _) (Nat.add_assoc _ _ _))⟩))))
            go_ret
            exact ⟨by first | rfl | (simp; done) | (simp [*]; done), by repeat (first | exact Drawn0.refl _ | apply Drawn0.step)⟩
        · rw [if_neg c5] at H
          exact absurd H (by simp)
      · rw [if_neg c4] at H
        have c4b0 : decide (x7_1 < (l0.length : Int)) = false := decide_eq_false c4
        clear c4
        obtain rfl := Option.some.inj H
        go_wp2
        repeat (go_quiet (fail); try go_wp2)
        go_ret
        exact ⟨by first | rfl | (simp; done) | (simp [*]; done), by repeat (first | exact Drawn0.refl _ | apply Drawn0.step)⟩

/-! ### spec_l13Nodes: function 61 -/
def spec_l13Nodes.f (k : Nat) (l0 : List Int) : Option (Bool) := (spec_l00Rises.f k l0 0 15).bind fun t151 => (some t151)
theorem spec_l13Nodes.mono : ∀ a0 k, LeO (spec_l13Nodes.f k a0) (spec_l13Nodes.f (k + 1) a0) := by
  intro a0 k
  unfold spec_l13Nodes.f
  repeat' first
      | (with_reducible exact spec_l00Rises.mono _ _ _ _)
      | (with_reducible exact LeO.refl _)
      | (with_reducible exact LeO.none _)
      | (with_reducible refine LeO.ite ?_ ?_)
      | (with_reducible refine LeO.bind ?_ (fun _ => ?_))
      | exact spec_l00Rises.mono _ _ _ _
      | exact LeO.none _
      | refine LeO.ite ?_ ?_
      | refine LeO.bind ?_ (fun _ => ?_)
set_option maxHeartbeats 8000000 in
set_option maxRecDepth 100000 in
theorem spec_l13Nodes.calls (k : Nat) (A0 : Option Addr) (c0 : Nat) (l0 : List Int) (r : Bool) (w : World) (hr0 : Kd.C (Kd.int .i64) w A0 l0.length l0) (hc0 : l0.length ≤ c0) (h : spec_l13Nodes.f k l0 = some r) :
    Calls Try.prog 61 #[.slice A0 l0.length c0] w fun e w' => e = .returned (.bool r) ∧ Drawn0 w w' := by
  have HR0 := Aside0.mk hr0
  have HC0 := Aside0.mk hc0
  clear hr0 hc0
  have H : ((spec_l00Rises.f k l0 0 15).bind fun t151 => (some t151)) = some r := h
  clear h
  replace H := Option.bind_eq_some_iff.mp H
  obtain ⟨t151, A20, H⟩ := H
  replace H : (some t151) = some r := H
  have A2 := Aside0.mk A20
  clear A20
  obtain rfl := Option.some.inj H
  go_enter Try.func61, Try.ntmps61
  go_wp2_with (first | ((with_reducible refine gate_callee (f := 81) rfl ?_); refine goesL_ (some 4) rfl rfl Try.func81 (by kernel_rfl) rfl #[.slice A0 l0.length c0, .int .i64 0, .int .i64 15] rfl (by (try simp only [List.map_toArray, List.map_cons, List.map_nil]); first | done | rfl | (simp only [List.length_drop, List.length_take]; rfl)) ?_; (with_reducible refine (spec_l00Rises.calls k _ _ l0 0 15 t151 _ ?side1 ?side2 A2.out).mono ?_); (case side1 => repeat (first | exact HR0.out | (with_reducible refine Kd.C_alloc ?_ _) | (with_reducible refine Kd.C_drewN ?_ _) | (with_reducible refine Kd.C_drew ?_))); (case side2 => exact HC0.out); rintro e w' ⟨rfl, ⟨nd, rfl⟩⟩; refine ⟨_, rfl, ?_⟩))
  go_ret
  exact ⟨by first | rfl | (simp; done) | (simp [*]; done), by repeat (first | exact Drawn0.refl _ | apply Drawn0.step)⟩

/-! ### spec_l12Place: function 49 -/
def spec_l12Place.l0 : Nat → List Int → Int → Int → Option (Int)
  | 0, _, _, _ => none
  | k + 1, x0, x1, x5 => if x5 < (x0.length : Int) then (if x1 ≥ 0 then (if 0 ≤ x5 then (if (rd x0 x5) = x1 then (some x5) else (spec_l12Place.l0 k x0 x1 (wrap64 (x5 + 1)))) else (none)) else (spec_l12Place.l0 k x0 x1 (wrap64 (x5 + 1)))) else (some (-1))
def spec_l12Place.f (k : Nat) (l0 : List Int) (a1 : Int) : Option (Int) := spec_l12Place.l0 k l0 a1 0
theorem spec_l12Place.mono_l : ∀ k, (∀ y0 y1 y2, LeO (spec_l12Place.l0 k y0 y1 y2) (spec_l12Place.l0 (k + 1) y0 y1 y2))
  | 0 => fun _ _ _ r h => by simp [spec_l12Place.l0] at h
  | k + 1 => by
    have ih0 := spec_l12Place.mono_l k
    · intro y0 y1 y2
      unfold spec_l12Place.l0
      repeat' first
      | (with_reducible exact ih0 _ _ _)
      | (with_reducible exact LeO.refl _)
      | (with_reducible exact LeO.none _)
      | (with_reducible refine LeO.ite ?_ ?_)
      | (with_reducible refine LeO.bind ?_ (fun _ => ?_))
      | exact ih0 _ _ _
      | exact LeO.none _
      | refine LeO.ite ?_ ?_
      | refine LeO.bind ?_ (fun _ => ?_)
theorem spec_l12Place.mono : ∀ a0 a1 k, LeO (spec_l12Place.f k a0 a1) (spec_l12Place.f (k + 1) a0 a1) := by
  intro a0 a1 k
  have ih0 := spec_l12Place.mono_l k
  unfold spec_l12Place.f
  repeat' first
      | (with_reducible exact ih0 _ _ _)
      | (with_reducible exact LeO.refl _)
      | (with_reducible exact LeO.none _)
      | (with_reducible refine LeO.ite ?_ ?_)
      | (with_reducible refine LeO.bind ?_ (fun _ => ?_))
      | exact ih0 _ _ _
      | exact LeO.none _
      | refine LeO.ite ?_ ?_
      | refine LeO.bind ?_ (fun _ => ?_)
set_option maxHeartbeats 8000000 in
set_option maxRecDepth 100000 in
theorem spec_l12Place.calls (k : Nat) (A0 : Option Addr) (c0 : Nat) (l0 : List Int) (a1 : Int) (r : Int) (w : World) (hr0 : Kd.C (Kd.int .i64) w A0 l0.length l0) (hc0 : l0.length ≤ c0) (h : spec_l12Place.f k l0 a1 = some r) :
    Calls Try.prog 49 #[.slice A0 l0.length c0, .int .i64 a1] w fun e w' => e = .returned (.int .i64 r) ∧ Drawn0 w w' := by
  have HR0 := Aside0.mk hr0
  have HC0 := Aside0.mk hc0
  clear hr0 hc0
  have H : (spec_l12Place.l0 k l0 a1 0) = some r := h
  clear h
  have H' := Aside0.mk H
  clear H
  go_enter Try.func49, Try.ntmps49
  go_wp2
  go_loopg [5] k (fun kq v5 w' => ∃ (x5_1 : Int), v5 = .int .i64 x5_1 ∧ Aside0 (spec_l12Place.l0 kq l0 a1 x5_1 = some r) ∧ Aside0 (kq ≤ k) ∧ Drawn0 w w')
  case atStart => exact ⟨(0), (by first | rfl | (simp; done) | (simp [*]; done)), H', ⟨Nat.le_refl _⟩, by repeat (first | exact Drawn0.refl _ | apply Drawn0.step)⟩
  case round =>
    clear H'
    try clear p2
    obtain ⟨x5_1, rfl, HA, HK1, ⟨m1, rfl⟩⟩ := hrel
    cases gk with
    | zero => exact absurd HA.out (by simp [spec_l12Place.l0])
    | succ k1 =>
      have H := HA.out
      clear HA
      simp only [spec_l12Place.l0] at H
      by_cases c3 : x5_1 < (l0.length : Int)
      · rw [if_pos c3] at H
        have c3b0 : decide (x5_1 < (l0.length : Int)) = true := decide_eq_true c3
        clear c3
        by_cases c4 : a1 ≥ 0
        · rw [if_pos c4] at H
          have c4b0 : decide (0 ≤ a1) = true := decide_eq_true c4
          clear c4
          by_cases c5 : 0 ≤ x5_1
          · rw [if_pos c5] at H
            have c5b0 : decide (0 ≤ x5_1) = true := decide_eq_true c5
            clear c5
            by_cases c6 : (rd l0 x5_1) = a1
            · rw [if_pos c6] at H
              have c6b0 : ((rd l0 x5_1) == a1) = true := beq_iff_eq.mpr c6
              have c6b1 : ((rd l0 x5_1) != a1) = false := bne_eq_false_iff_eq.mpr c6
              clear c6
              obtain rfl := Option.some.inj H
              have p152 : 0 ≤ (x5_1 : Int) := of_decide_eq_true (by first | (with_reducible assumption) | assumption)
              have q152 : x5_1 < (l0.length : Int) := of_decide_eq_true (by first | (with_reducible assumption) | assumption)
              obtain ⟨ad152, e152, hx152_0⟩ := Kd.at_int HR0.out x5_1 p152 q152
              cases e152
              replace p152 := eq_true p152
              replace q152 := eq_true q152
              go_wp2
              go_ret
              exact ⟨by first | rfl | (simp; done) | (simp [*]; done), by repeat (first | exact Drawn0.refl _ | apply Drawn0.step)⟩
            · rw [if_neg c6] at H
              have c6b0 : ((rd l0 x5_1) == a1) = false := beq_eq_false_iff_ne.mpr c6
              have c6b1 : ((rd l0 x5_1) != a1) = true := bne_iff_ne.mpr c6
              have H' := Aside0.mk H
              clear H
              have p152 : 0 ≤ (x5_1 : Int) := of_decide_eq_true (by first | (with_reducible assumption) | assumption)
              have q152 : x5_1 < (l0.length : Int) := of_decide_eq_true (by first | (with_reducible assumption) | assumption)
              obtain ⟨ad152, e152, hx152_0⟩ := Kd.at_int HR0.out x5_1 p152 q152
              cases e152
              replace p152 := eq_true p152
              replace q152 := eq_true q152
              go_wp2
              go_roundg k1
              case measure => have := HK1.out; omega
              case rel => exact ⟨(wrap64 (x5_1 + 1)), (by first | rfl | (simp; done) | (simp [*]; done)), H', ⟨by have := HK1.out; omega⟩, by repeat (first | exact Drawn0.refl _ | apply Drawn0.step)⟩
          · rw [if_neg c5] at H
            exact absurd H (by simp)
        · rw [if_neg c4] at H
          have c4b0 : decide (0 ≤ a1) = false := decide_eq_false c4
          clear c4
          have H' := Aside0.mk H
          clear H
          go_wp2
          go_roundg k1
          case measure => have := HK1.out; omega
          case rel => exact ⟨(wrap64 (x5_1 + 1)), (by first | rfl | (simp; done) | (simp [*]; done)), H', ⟨by have := HK1.out; omega⟩, by repeat (first | exact Drawn0.refl _ | apply Drawn0.step)⟩
      · rw [if_neg c3] at H
        have c3b0 : decide (x5_1 < (l0.length : Int)) = false := decide_eq_false c3
        clear c3
        obtain rfl := Option.some.inj H
        go_wp2
        go_ret
        exact ⟨by first | rfl | (simp; done) | (simp [*]; done), by repeat (first | exact Drawn0.refl _ | apply Drawn0.step)⟩

/-! ### spec_l13Heard: function 62 -/
def spec_l13Heard.l0 : Nat → List Int → List Int → Int → Int → Int → List Int → Bool → Option (List Int)
  | 0, _, _, _, _, _, _, _ => none
  | k + 1, x1, x5, x6, x154000, x154001, x154002, x154003 => if x6 < (x1.length : Int) then (if 0 ≤ x6 then ((spec_l12Place.f k x154002 (rd x1 x6)).bind fun t158 => (if t158 ≥ 0 then (if x5.length < 17592186044416 then (spec_l13Heard.l0 k x1 (x5 ++ [rd x1 x6]) (wrap64 (x6 + 1)) x154000 x154001 x154002 x154003) else (none)) else (spec_l13Heard.l0 k x1 x5 (wrap64 (x6 + 1)) x154000 x154001 x154002 x154003))) else (none)) else (some x5)
def spec_l13Heard.f (k : Nat) (a0_0 : Int) (a0_1 : Int) (l0_2 : List Int) (a0_3 : Bool) (l1 : List Int) : Option (List Int) := spec_l13Heard.l0 k l1 (([] : List Int)) 0 a0_0 a0_1 l0_2 a0_3
theorem spec_l13Heard.mono_l : ∀ k, (∀ y0 y1 y2 y3 y4 y5 y6, LeO (spec_l13Heard.l0 k y0 y1 y2 y3 y4 y5 y6) (spec_l13Heard.l0 (k + 1) y0 y1 y2 y3 y4 y5 y6))
  | 0 => fun _ _ _ _ _ _ _ r h => by simp [spec_l13Heard.l0] at h
  | k + 1 => by
    have ih0 := spec_l13Heard.mono_l k
    · intro y0 y1 y2 y3 y4 y5 y6
      unfold spec_l13Heard.l0
      repeat' first
      | (with_reducible exact ih0 _ _ _ _ _ _ _)
      | (with_reducible exact spec_l12Place.mono _ _ _)
      | (with_reducible exact LeO.refl _)
      | (with_reducible exact LeO.none _)
      | (with_reducible refine LeO.ite ?_ ?_)
      | (with_reducible refine LeO.bind ?_ (fun _ => ?_))
      | exact ih0 _ _ _ _ _ _ _
      | exact spec_l12Place.mono _ _ _
      | exact LeO.none _
      | refine LeO.ite ?_ ?_
      | refine LeO.bind ?_ (fun _ => ?_)
theorem spec_l13Heard.mono : ∀ a0 a1 a2 a3 a4 k, LeO (spec_l13Heard.f k a0 a1 a2 a3 a4) (spec_l13Heard.f (k + 1) a0 a1 a2 a3 a4) := by
  intro a0 a1 a2 a3 a4 k
  have ih0 := spec_l13Heard.mono_l k
  unfold spec_l13Heard.f
  repeat' first
      | (with_reducible exact ih0 _ _ _ _ _ _ _)
      | (with_reducible exact spec_l12Place.mono _ _ _)
      | (with_reducible exact LeO.refl _)
      | (with_reducible exact LeO.none _)
      | (with_reducible refine LeO.ite ?_ ?_)
      | (with_reducible refine LeO.bind ?_ (fun _ => ?_))
      | exact ih0 _ _ _ _ _ _ _
      | exact spec_l12Place.mono _ _ _
      | exact LeO.none _
      | refine LeO.ite ?_ ?_
      | refine LeO.bind ?_ (fun _ => ?_)
set_option maxHeartbeats 8000000 in
set_option maxRecDepth 100000 in
theorem spec_l13Heard.calls (k : Nat) (a0_0 : Int) (a0_1 : Int) (A0_2 : Option Addr) (c0_2 : Nat) (l0_2 : List Int) (a0_3 : Bool) (A1 : Option Addr) (c1 : Nat) (l1 : List Int) (r : List Int) (w : World) (hr0_2 : Kd.C (Kd.int .i64) w A0_2 l0_2.length l0_2) (hc0_2 : l0_2.length ≤ c0_2) (hr1 : Kd.C (Kd.int .i64) w A1 l1.length l1) (hc1 : l1.length ≤ c1) (h : spec_l13Heard.f k a0_0 a0_1 l0_2 a0_3 l1 = some r) :
    Calls Try.prog 62 #[.agg #[.int .i64 a0_0, .int .i64 a0_1, .slice A0_2 l0_2.length c0_2, .bool a0_3], .slice A1 l1.length c1] w fun e w' => ∃ v0_ : Value, e = .returned (v0_) ∧ Kd.R (Kd.int .i64) 2 w' w.heap.size (fun _ => True) v0_ r ∧ Below w.heap.size w w' := by
  have hu43 := Try.underlying43
  have HR0_2 := Aside0.mk hr0_2
  have HC0_2 := Aside0.mk hc0_2
  clear hr0_2 hc0_2
  have HR1 := Aside0.mk hr1
  have HC1 := Aside0.mk hc1
  clear hr1 hc1
  have HB := Aside0.mk (Below.refl w.heap.size w)
  have H : (spec_l13Heard.l0 k l1 (([] : List Int)) 0 a0_0 a0_1 l0_2 a0_3) = some r := h
  clear h
  obtain ⟨y154, hy154⟩ : ∃ y_ : List Int, y_ = (([] : List Int)) := ⟨_, rfl⟩
  replace H : (spec_l13Heard.l0 k l1 y154 0 a0_0 a0_1 l0_2 a0_3) = some r := by first | (rw [hy154]; with_reducible exact H) | (have H2_ := (Option.bind_some _ _).symm.trans H; rw [hy154]; with_reducible exact H2_) | (have H2_ := (Option.bind_some _ _).symm.trans H; with_reducible exact H2_) | with_reducible exact H | (rw [hy154]; exact H) | exact H
  have Ny154 := Aside0.mk hy154
  clear hy154
  have H' := Aside0.mk H
  clear H
  go_enter Try.func62, Try.ntmps62
  go_wp2_with (first | ((with_reducible refine gate_dst (N := 2) rfl ?_); refine box_event ?hg (N := 2) ?hd (cs := #[.int .i64 a0_0, .int .i64 a0_1, .slice A0_2 l0_2.length c0_2, .bool a0_3]) (t := 43) ?hr ?_; (case hd => rfl); (case hg => rfl); (case hr => first | (go_simp; done) | (go_simp; rfl)); intro gb153 hg w3 hbox hb; have n0_ := Aside0.mk (below_step (by repeat (first | (with_reducible first | exact HB.out | apply below_alloc | apply pw_below_drewN | apply below_drew1) | exact HB.out)) hb); have n1_ := Aside0.mk (hbox); have n2_ := Aside0.mk ((by rw [hg]; exact (below_size (by repeat (first | (with_reducible first | exact HB.out | apply below_alloc | apply pw_below_drewN | apply below_drew1) | exact HB.out))) : w.heap.size ≤ gb153)); have n3_ := Aside0.mk ((by rw [hg]; exact (below_size (by repeat (first | (with_reducible first | exact HB.out | apply below_alloc | apply pw_below_drewN | apply below_drew1) | exact HB.out))) : w.heap.size ≤ gb153)); clear HB; have HB := n0_; have BK153 := n1_; have GW153 := n2_; have GE153 := n3_; clear n0_ n1_ n2_ n3_; clear hb hbox hg) | ((with_reducible refine gate_dst (N := 7) rfl ?_); refine Kd.R_lit (Kd.int .i64) _ 2 ?hg (N := 7) ?hd (xs := ([] : List Int)) (inner := []) (ok := fun _ => True) (okp := fun _ => True) ?hr ?hp (fun _ hk => hk) trivial (Below.refl _ _) (Nat.le_refl _) (by simp) ?_; (case hd => rfl); (case hg => rfl); (case hr => first | (go_simp; done) | (go_simp; rfl)); (case hp => exact (Reps.none _ _)); intro v155 w4 ho5 hb hg_ hnew_; clear hg_ hnew_; (first | rw [← Ny154.out] at ho5 | (simp only [Int.reduceToNat] at ho5; rw [← Ny154.out] at ho5)); have n0_ := Aside0.mk (Kd.R_lower ho5 (below_size (by repeat (first | (with_reducible first | exact HB.out | apply below_alloc | apply pw_below_drewN | apply below_drew1 | refine below_set ?_ GE153.out) | exact HB.out)))); have n1_ := Aside0.mk (blk_below (g := gb153) (o := .cells #[.int .i64 a0_0, .int .i64 a0_1, .slice A0_2 l0_2.length c0_2, .bool a0_3] 43 (0, 0)) (by (with_reducible repeat (first | refine blk_drewN ?_ _ | refine blk_drew ?_ | refine blk_alloc ?_ _)); exact BK153.out) hb); have n2_ := Aside0.mk (below_step (by repeat (first | (with_reducible first | exact HB.out | apply below_alloc | apply pw_below_drewN | apply below_drew1 | refine below_set ?_ GE153.out) | exact HB.out)) hb); clear BK153; clear HB; have HO156 := n0_; have BK153 := n1_; have HB := n2_; clear n0_ n1_ n2_; clear hb ho5))
  repeat (go_quiet (first | ((with_reducible refine gate_dst (N := 2) rfl ?_); refine box_event ?hg (N := 2) ?hd (cs := #[.int .i64 a0_0, .int .i64 a0_1, .slice A0_2 l0_2.length c0_2, .bool a0_3]) (t := 43) ?hr ?_; (case hd => rfl); (case hg => rfl); (case hr => first | (go_simp; done) | (go_simp; rfl)); intro gb153 hg w3 hbox hb; have n0_ := Aside0.mk (below_step (by repeat (first | (with_reducible first | exact HB.out | apply below_alloc | apply pw_below_drewN | apply below_drew1) | exact HB.out)) hb); have n1_ := Aside0.mk (hbox); have n2_ := Aside0.mk ((by rw [hg]; exact (below_size (by repeat (first | (with_reducible first | exact HB.out | apply below_alloc | apply pw_below_drewN | apply below_drew1) | exact HB.out))) : w.heap.size ≤ gb153)); have n3_ := Aside0.mk ((by rw [hg]; exact (below_size (by repeat (first | (with_reducible first | exact HB.out | apply below_alloc | apply pw_below_drewN | apply below_drew1) | exact HB.out))) : w.heap.size ≤ gb153)); clear HB; have HB := n0_; have BK153 := n1_; have GW153 := n2_; have GE153 := n3_; clear n0_ n1_ n2_ n3_; clear hb hbox hg) | ((with_reducible refine gate_dst (N := 7) rfl ?_); refine Kd.R_lit (Kd.int .i64) _ 2 ?hg (N := 7) ?hd (xs := ([] : List Int)) (inner := []) (ok := fun _ => True) (okp := fun _ => True) ?hr ?hp (fun _ hk => hk) trivial (Below.refl _ _) (Nat.le_refl _) (by simp) ?_; (case hd => rfl); (case hg => rfl); (case hr => first | (go_simp; done) | (go_simp; rfl)); (case hp => exact (Reps.none _ _)); intro v155 w4 ho5 hb hg_ hnew_; clear hg_ hnew_; (first | rw [← Ny154.out] at ho5 | (simp only [Int.reduceToNat] at ho5; rw [← Ny154.out] at ho5)); have n0_ := Aside0.mk (Kd.R_lower ho5 (below_size (by repeat (first | (with_reducible first | exact HB.out | apply below_alloc | apply pw_below_drewN | apply below_drew1 | refine below_set ?_ GE153.out) | exact HB.out)))); have n1_ := Aside0.mk (blk_below (g := gb153) (o := .cells #[.int .i64 a0_0, .int .i64 a0_1, .slice A0_2 l0_2.length c0_2, .bool a0_3] 43 (0, 0)) (by (with_reducible repeat (first | refine blk_drewN ?_ _ | refine blk_drew ?_ | refine blk_alloc ?_ _)); exact BK153.out) hb); have n2_ := Aside0.mk (below_step (by repeat (first | (with_reducible first | exact HB.out | apply below_alloc | apply pw_below_drewN | apply below_drew1 | refine below_set ?_ GE153.out) | exact HB.out)) hb); clear BK153; clear HB; have HO156 := n0_; have BK153 := n1_; have HB := n2_; clear n0_ n1_ n2_; clear hb ho5)); try go_wp2_with (first | ((with_reducible refine gate_dst (N := 2) rfl ?_); refine box_event ?hg (N := 2) ?hd (cs := #[.int .i64 a0_0, .int .i64 a0_1, .slice A0_2 l0_2.length c0_2, .bool a0_3]) (t := 43) ?hr ?_; (case hd => rfl); (case hg => rfl); (case hr => first | (go_simp; done) | (go_simp; rfl)); intro gb153 hg w3 hbox hb; have n0_ := Aside0.mk (below_step (by repeat (first | (with_reducible first | exact HB.out | apply below_alloc | apply pw_below_drewN | apply below_drew1) | exact HB.out)) hb); have n1_ := Aside0.mk (hbox); have n2_ := Aside0.mk ((by rw [hg]; exact (below_size (by repeat (first | (with_reducible first | exact HB.out | apply below_alloc | apply pw_below_drewN | apply below_drew1) | exact HB.out))) : w.heap.size ≤ gb153)); have n3_ := Aside0.mk ((by rw [hg]; exact (below_size (by repeat (first | (with_reducible first | exact HB.out | apply below_alloc | apply pw_below_drewN | apply below_drew1) | exact HB.out))) : w.heap.size ≤ gb153)); clear HB; have HB := n0_; have BK153 := n1_; have GW153 := n2_; have GE153 := n3_; clear n0_ n1_ n2_ n3_; clear hb hbox hg) | ((with_reducible refine gate_dst (N := 7) rfl ?_); refine Kd.R_lit (Kd.int .i64) _ 2 ?hg (N := 7) ?hd (xs := ([] : List Int)) (inner := []) (ok := fun _ => True) (okp := fun _ => True) ?hr ?hp (fun _ hk => hk) trivial (Below.refl _ _) (Nat.le_refl _) (by simp) ?_; (case hd => rfl); (case hg => rfl); (case hr => first | (go_simp; done) | (go_simp; rfl)); (case hp => exact (Reps.none _ _)); intro v155 w4 ho5 hb hg_ hnew_; clear hg_ hnew_; (first | rw [← Ny154.out] at ho5 | (simp only [Int.reduceToNat] at ho5; rw [← Ny154.out] at ho5)); have n0_ := Aside0.mk (Kd.R_lower ho5 (below_size (by repeat (first | (with_reducible first | exact HB.out | apply below_alloc | apply pw_below_drewN | apply below_drew1 | refine below_set ?_ GE153.out) | exact HB.out)))); have n1_ := Aside0.mk (blk_below (g := gb153) (o := .cells #[.int .i64 a0_0, .int .i64 a0_1, .slice A0_2 l0_2.length c0_2, .bool a0_3] 43 (0, 0)) (by (with_reducible repeat (first | refine blk_drewN ?_ _ | refine blk_drew ?_ | refine blk_alloc ?_ _)); exact BK153.out) hb); have n2_ := Aside0.mk (below_step (by repeat (first | (with_reducible first | exact HB.out | apply below_alloc | apply pw_below_drewN | apply below_drew1 | refine below_set ?_ GE153.out) | exact HB.out)) hb); clear BK153; clear HB; have HO156 := n0_; have BK153 := n1_; have HB := n2_; clear n0_ n1_ n2_; clear hb ho5)))
  go_loopg [5, 6] k (fun kq v5 v6 w' => ∃ (x5_1 : List Int) (x6_1 : Int), v6 = .int .i64 x6_1 ∧ Aside0 (spec_l13Heard.l0 kq l1 x5_1 x6_1 a0_0 a0_1 l0_2 a0_3 = some r) ∧ Aside0 (kq ≤ k) ∧ Aside0 (Kd.R (Kd.int .i64) 2 w' w.heap.size (fun _ => True) v5 x5_1) ∧ Aside0 (w'.heap[gb153]? = some (.cells #[.int .i64 a0_0, .int .i64 a0_1, (.slice A0_2 l0_2.length c0_2), .bool a0_3] 43 (0, 0))) ∧ Aside0 (Below w.heap.size w w'))
  case atStart => exact ⟨(y154), (0), (by first | rfl | (simp; done) | (simp [*]; done)), H', ⟨Nat.le_refl _⟩, ⟨by (with_reducible repeat (first | apply Kd.R_alloc | apply Kd.R_drewN | apply Kd.R_drew)); exact HO156.out⟩, ⟨by (with_reducible repeat (first | refine blk_drewN ?_ _ | refine blk_drew ?_ | refine blk_alloc ?_ _)); exact BK153.out⟩, ⟨by repeat (first | (with_reducible first | exact HB.out | apply below_alloc | apply pw_below_drewN | apply below_drew1 | refine below_set ?_ GE153.out) | exact HB.out)⟩⟩
  case round =>
    clear H'
    try clear c1
    try clear p2
    obtain ⟨x5_1, x6_1, rfl, HA, HK1, HO_5, BK153, HB⟩ := hrel
    cases gk with
    | zero => exact absurd HA.out (by simp [spec_l13Heard.l0])
    | succ k1 =>
      have H := HA.out
      clear HA
      simp only [spec_l13Heard.l0] at H
      by_cases c6 : x6_1 < (l1.length : Int)
      · rw [if_pos c6] at H
        have c6b0 : decide (x6_1 < (l1.length : Int)) = true := decide_eq_true c6
        clear c6
        by_cases c7 : 0 ≤ x6_1
        · rw [if_pos c7] at H
          have c7b0 : decide (0 ≤ x6_1) = true := decide_eq_true c7
          clear c7
          replace H := Option.bind_eq_some_iff.mp H
          obtain ⟨t158, A80, H⟩ := H
          replace H : (if t158 ≥ 0 then (if x5_1.length < 17592186044416 then (spec_l13Heard.l0 k1 l1 (x5_1 ++ [rd l1 x6_1]) (wrap64 (x6_1 + 1)) a0_0 a0_1 l0_2 a0_3) else (none)) else (spec_l13Heard.l0 k1 l1 x5_1 (wrap64 (x6_1 + 1)) a0_0 a0_1 l0_2 a0_3)) = some r := H
          have A8 := Aside0.mk A80
          clear A80
          by_cases c9 : t158 ≥ 0
          · rw [if_pos c9] at H
            have c9b0 : decide (0 ≤ t158) = true := decide_eq_true c9
            clear c9
            by_cases c10 : x5_1.length < 17592186044416
            · rw [if_pos c10] at H
              have LMc10 := Aside0.mk c10
              clear c10
              obtain ⟨y160, hy160⟩ : ∃ y_ : List Int, y_ = (x5_1 ++ [rd l1 x6_1]) := ⟨_, rfl⟩
              replace H : (spec_l13Heard.l0 k1 l1 y160 (wrap64 (x6_1 + 1)) a0_0 a0_1 l0_2 a0_3) = some r := by first | (rw [hy160]; with_reducible exact H) | (have H2_ := (Option.bind_some _ _).symm.trans H; rw [hy160]; with_reducible exact H2_) | (have H2_ := (Option.bind_some _ _).symm.trans H; with_reducible exact H2_) | with_reducible exact H | (rw [hy160]; exact H) | exact H
              have Ny160 := Aside0.mk hy160
              clear hy160
              have H' := Aside0.mk H
              clear H
              have hcz11_0 : wr.cell? ⟨gb153, 0, none⟩ = some (.int .i64 a0_0) := (blk_cell BK153.out 0).trans rfl
              have hcz11_1 : wr.cell? ⟨gb153, 1, none⟩ = some (.int .i64 a0_1) := (blk_cell BK153.out 1).trans rfl
              have hcz11_2 : wr.cell? ⟨gb153, 2, none⟩ = some (.slice A0_2 l0_2.length c0_2) := (blk_cell BK153.out 2).trans rfl
              have hcz11_3 : wr.cell? ⟨gb153, 3, none⟩ = some (.bool a0_3) := (blk_cell BK153.out 3).trans rfl
              have hfz11_0 := blk_frozen BK153.out 0
              have hfz11_1 := blk_frozen BK153.out 1
              have hfz11_2 := blk_frozen BK153.out 2
              have hfz11_3 := blk_frozen BK153.out 3
              have p157 : 0 ≤ (x6_1 : Int) := of_decide_eq_true (by first | (with_reducible assumption) | assumption)
              have q157 : x6_1 < (l1.length : Int) := of_decide_eq_true (by first | (with_reducible assumption) | assumption)
              obtain ⟨ad157, e157, hx157_0⟩ := Kd.at_int HR1.out x6_1 p157 q157
              cases e157
              replace hx157_0 := (HB.out.cell (World.block_lt_of_cell? w _ hx157_0)).trans hx157_0
              replace p157 := eq_true p157
              replace q157 := eq_true q157
              try (have p159 : 0 ≤ (x6_1 : Int) := of_decide_eq_true (by first | (with_reducible assumption) | assumption); have q159 : x6_1 < (l1.length : Int) := of_decide_eq_true (by first | (with_reducible assumption) | assumption); obtain ⟨ad159, e159, hx159_0⟩ := Kd.at_int HR1.out x6_1 p159 q159; obtain rfl : ad157 = ad159 := (by injection e159); replace hx159_0 := (HB.out.cell (World.block_lt_of_cell? w _ hx159_0)).trans hx159_0; replace p159 := eq_true p159; replace q159 := eq_true q159)
              go_wp2_with (first | (go_at_call 49; (with_reducible refine (spec_l12Place.calls k1 _ _ l0_2 (rd l1 x6_1) t158 _ ?side1 ?side2 A8.out).mono ?_); (case side1 => repeat (first | exact (Kd.C_below HR0_2.out HB.out) | (with_reducible refine Kd.C_alloc ?_ _) | (with_reducible refine Kd.C_drewN ?_ _) | (with_reducible refine Kd.C_drew ?_))); (case side2 => exact HC0_2.out); rintro e w' ⟨rfl, ⟨nd, rfl⟩⟩; (try first | exact ⟨rfl, _, World.drewN_drewN _ _ _⟩ | exact ⟨rfl, _, Eq.trans (World.drewN_drewN _ _ _) (congrArg (World.drewN _) (Nat.add_assoc _ _ _))⟩); have p159 : 0 ≤ (x6_1 : Int) := of_decide_eq_true (by first | (with_reducible assumption) | assumption); have q159 : x6_1 < (l1.length : Int) := of_decide_eq_true (by first | (with_reducible assumption) | assumption); obtain ⟨ad159, e159, hx159_0⟩ := Kd.at_int HR1.out x6_1 p159 q159; obtain rfl : ad157 = ad159 := (by injection e159); replace hx159_0 := (HB.out.cell (World.block_lt_of_cell? w _ hx159_0)).trans hx159_0; replace p159 := eq_true p159; replace q159 := eq_true q159) | ((with_reducible refine gate_builtin (b := .append) (xs := #[.tmp 22, .tmp 27]) rfl ?_); at_builtin; refine Kd.R_append (Kd.int .i64) (w0 := w) w.heap.size rfl (.tmp 22) (.tmp 27) 22 2 (.int .i64 0) 8 rfl Try.underlying22 info2 rfl (by decide) (by omega) u5 x5_1 (rd l1 x6_1) [.int .i64 (rd l1 x6_1)] (fun _ => True) (fun _ => False) rfl rfl ?aP (fun _ hk => hk.elim) ?aF ?aO ?aB ?aS ?aL ?_; (case aP => exact rfl); (case aB => exact (by repeat (first | (with_reducible first | exact HB.out | apply below_alloc | apply pw_below_drewN | apply below_drew1 | refine below_set ?_ GE153.out) | exact HB.out))); (case aF => exact (fun _ _ => trivial)); (case aO => exact (by (with_reducible repeat (first | apply Kd.R_alloc | apply Kd.R_drewN | apply Kd.R_drew)); exact HO_5.out)); (case aS => exact (below_size (by repeat (first | (with_reducible first | exact HB.out | apply below_alloc | apply pw_below_drewN | apply below_drew1 | refine below_set ?_ GE153.out) | exact HB.out)))); (case aL => have := LMc10.out; omega); intro v161 w12 ho hb hg hat; rw [← Ny160.out] at ho; have n0_ := Aside0.mk (blk_grown (g := gb153) (o := .cells #[.int .i64 a0_0, .int .i64 a0_1, .slice A0_2 l0_2.length c0_2, .bool a0_3] 43 (0, 0)) (by (with_reducible repeat (first | refine blk_drewN ?_ _ | refine blk_drew ?_ | refine blk_alloc ?_ _)); exact BK153.out) hg (Kd.R_ne HO_5.out BK153.out (by decide))); have n1_ := Aside0.mk (hb); have n2_ := Aside0.mk (ho); clear BK153; clear HB; clear HO_5; have BK153 := n0_; have HB := n1_; have HO162 := n2_; clear n0_ n1_ n2_; clear ho hb hg hat))
              first | (have hz_ := q159; clear hz_) | (have p159 : 0 ≤ (x6_1 : Int) := of_decide_eq_true (by first | (with_reducible assumption) | assumption); have q159 : x6_1 < (l1.length : Int) := of_decide_eq_true (by first | (with_reducible assumption) | assumption); obtain ⟨ad159, e159, hx159_0⟩ := Kd.at_int HR1.out x6_1 p159 q159; obtain rfl : ad157 = ad159 := (by injection e159); replace hx159_0 := (HB.out.cell (World.block_lt_of_cell? w _ hx159_0)).trans hx159_0; replace p159 := eq_true p159; replace q159 := eq_true q159) | skip
              repeat (go_quiet (first | (go_at_call 49; (with_reducible refine (spec_l12Place.calls k1 _ _ l0_2 (rd l1 x6_1) t158 _ ?side1 ?side2 A8.out).mono ?_); (case side1 => repeat (first | exact (Kd.C_below HR0_2.out HB.out) | (with_reducible refine Kd.C_alloc ?_ _) | (with_reducible refine Kd.C_drewN ?_ _) | (with_reducible refine Kd.C_drew ?_))); (case side2 => exact HC0_2.out); rintro e w' ⟨rfl, ⟨nd, rfl⟩⟩; (try first | exact ⟨rfl, _, World.drewN_drewN _ _ _⟩ | exact ⟨rfl, _, Eq.trans (World.drewN_drewN _ _ _) (congrArg (World.drewN _) (Nat.add_assoc _ _ _))⟩)) | ((with_reducible refine gate_builtin (b := .append) (xs := #[.tmp 22, .tmp 27]) rfl ?_); at_builtin; refine Kd.R_append (Kd.int .i64) (w0 := w) w.heap.size rfl (.tmp 22) (.tmp 27) 22 2 (.int .i64 0) 8 rfl Try.underlying22 info2 rfl (by decide) (by omega) u5 x5_1 (rd l1 x6_1) [.int .i64 (rd l1 x6_1)] (fun _ => True) (fun _ => False) rfl rfl ?aP (fun _ hk => hk.elim) ?aF ?aO ?aB ?aS ?aL ?_; (case aP => exact rfl); (case aB => exact (by repeat (first | (with_reducible first | exact HB.out | apply below_alloc | apply pw_below_drewN | apply below_drew1 | refine below_set ?_ GE153.out) | exact HB.out))); (case aF => exact (fun _ _ => trivial)); (case aO => exact (by (with_reducible repeat (first | apply Kd.R_alloc | apply Kd.R_drewN | apply Kd.R_drew)); exact HO_5.out)); (case aS => exact (below_size (by repeat (first | (with_reducible first | exact HB.out | apply below_alloc | apply pw_below_drewN | apply below_drew1 | refine below_set ?_ GE153.out) | exact HB.out)))); (case aL => have := LMc10.out; omega); intro v161 w12 ho hb hg hat; rw [← Ny160.out] at ho; have n0_ := Aside0.mk (blk_grown (g := gb153) (o := .cells #[.int .i64 a0_0, .int .i64 a0_1, .slice A0_2 l0_2.length c0_2, .bool a0_3] 43 (0, 0)) (by (with_reducible repeat (first | refine blk_drewN ?_ _ | refine blk_drew ?_ | refine blk_alloc ?_ _)); exact BK153.out) hg (Kd.R_ne HO_5.out BK153.out (by decide))); have n1_ := Aside0.mk (hb); have n2_ := Aside0.mk (ho); clear BK153; clear HB; clear HO_5; have BK153 := n0_; have HB := n1_; have HO162 := n2_; clear n0_ n1_ n2_; clear ho hb hg hat)); try go_wp2_with (first | (go_at_call 49; (with_reducible refine (spec_l12Place.calls k1 _ _ l0_2 (rd l1 x6_1) t158 _ ?side1 ?side2 A8.out).mono ?_); (case side1 => repeat (first | exact (Kd.C_below HR0_2.out HB.out) | (with_reducible refine Kd.C_alloc ?_ _) | (with_reducible refine Kd.C_drewN ?_ _) | (with_reducible refine Kd.C_drew ?_))); (case side2 => exact HC0_2.out); rintro e w' ⟨rfl, ⟨nd, rfl⟩⟩; (try first | exact ⟨rfl, _, World.drewN_drewN _ _ _⟩ | exact ⟨rfl, _, Eq.trans (World.drewN_drewN _ _ _) (congrArg (World.drewN _) (Nat.add_assoc _ _ _))⟩); have p159 : 0 ≤ (x6_1 : Int) := of_decide_eq_true (by first | (with_reducible assumption) | assumption); have q159 : x6_1 < (l1.length : Int) := of_decide_eq_true (by first | (with_reducible assumption) | assumption); obtain ⟨ad159, e159, hx159_0⟩ := Kd.at_int HR1.out x6_1 p159 q159; obtain rfl : ad157 = ad159 := (by injection e159); replace hx159_0 := (HB.out.cell (World.block_lt_of_cell? w _ hx159_0)).trans hx159_0; replace p159 := eq_true p159; replace q159 := eq_true q159) | ((with_reducible refine gate_builtin (b := .append) (xs := #[.tmp 22, .tmp 27]) rfl ?_); at_builtin; refine Kd.R_append (Kd.int .i64) (w0 := w) w.heap.size rfl (.tmp 22) (.tmp 27) 22 2 (.int .i64 0) 8 rfl Try.underlying22 info2 rfl (by decide) (by omega) u5 x5_1 (rd l1 x6_1) [.int .i64 (rd l1 x6_1)] (fun _ => True) (fun _ => False) rfl rfl ?aP (fun _ hk => hk.elim) ?aF ?aO ?aB ?aS ?aL ?_; (case aP => exact rfl); (case aB => exact (by repeat (first | (with_reducible first | exact HB.out | apply below_alloc | apply pw_below_drewN | apply below_drew1 | refine below_set ?_ GE153.out) | exact HB.out))); (case aF => exact (fun _ _ => trivial)); (case aO => exact (by (with_reducible repeat (first | apply Kd.R_alloc | apply Kd.R_drewN | apply Kd.R_drew)); exact HO_5.out)); (case aS => exact (below_size (by repeat (first | (with_reducible first | exact HB.out | apply below_alloc | apply pw_below_drewN | apply below_drew1 | refine below_set ?_ GE153.out) | exact HB.out)))); (case aL => have := LMc10.out; omega); intro v161 w12 ho hb hg hat; rw [← Ny160.out] at ho; have n0_ := Aside0.mk (blk_grown (g := gb153) (o := .cells #[.int .i64 a0_0, .int .i64 a0_1, .slice A0_2 l0_2.length c0_2, .bool a0_3] 43 (0, 0)) (by (with_reducible repeat (first | refine blk_drewN ?_ _ | refine blk_drew ?_ | refine blk_alloc ?_ _)); exact BK153.out) hg (Kd.R_ne HO_5.out BK153.out (by decide))); have n1_ := Aside0.mk (hb); have n2_ := Aside0.mk (ho); clear BK153; clear HB; clear HO_5; have BK153 := n0_; have HB := n1_; have HO162 := n2_; clear n0_ n1_ n2_; clear ho hb hg hat)))
              go_roundg k1
              case measure => have := HK1.out; omega
              case rel => exact ⟨(y160), (wrap64 (x6_1 + 1)), (by first | rfl | (simp; done) | (simp [*]; done)), H', ⟨by have := HK1.out; omega⟩, ⟨by (with_reducible repeat (first | apply Kd.R_alloc | apply Kd.R_drewN | apply Kd.R_drew)); exact HO162.out⟩, ⟨by (with_reducible repeat (first | refine blk_drewN ?_ _ | refine blk_drew ?_ | refine blk_alloc ?_ _)); exact BK153.out⟩, ⟨by repeat (first | (with_reducible first | exact HB.out | apply below_alloc | apply pw_below_drewN | apply below_drew1 | refine below_set ?_ GE153.out) | exact HB.out)⟩⟩
            · rw [if_neg c10] at H
              exact absurd H (by simp)
          · rw [if_neg c9] at H
            have c9b0 : decide (0 ≤ t158) = false := decide_eq_false c9
            clear c9
            have H' := Aside0.mk H
            clear H
            have hcz13_0 : wr.cell? ⟨gb153, 0, none⟩ = some (.int .i64 a0_0) := (blk_cell BK153.out 0).trans rfl
            have hcz13_1 : wr.cell? ⟨gb153, 1, none⟩ = some (.int .i64 a0_1) := (blk_cell BK153.out 1).trans rfl
            have hcz13_2 : wr.cell? ⟨gb153, 2, none⟩ = some (.slice A0_2 l0_2.length c0_2) := (blk_cell BK153.out 2).trans rfl
            have hcz13_3 : wr.cell? ⟨gb153, 3, none⟩ = some (.bool a0_3) := (blk_cell BK153.out 3).trans rfl
            have hfz13_0 := blk_frozen BK153.out 0
            have hfz13_1 := blk_frozen BK153.out 1
            have hfz13_2 := blk_frozen BK153.out 2
            have hfz13_3 := blk_frozen BK153.out 3
            have p157 : 0 ≤ (x6_1 : Int) := of_decide_eq_true (by first | (with_reducible assumption) | assumption)
            have q157 : x6_1 < (l1.length : Int) := of_decide_eq_true (by first | (with_reducible assumption) | assumption)
            obtain ⟨ad157, e157, hx157_0⟩ := Kd.at_int HR1.out x6_1 p157 q157
            cases e157
            replace hx157_0 := (HB.out.cell (World.block_lt_of_cell? w _ hx157_0)).trans hx157_0
            replace p157 := eq_true p157
            replace q157 := eq_true q157
            go_wp2_with (first | (go_at_call 49; (with_reducible refine (spec_l12Place.calls k1 _ _ l0_2 (rd l1 x6_1) t158 _ ?side1 ?side2 A8.out).mono ?_); (case side1 => repeat (first | exact (Kd.C_below HR0_2.out HB.out) | (with_reducible refine Kd.C_alloc ?_ _) | (with_reducible refine Kd.C_drewN ?_ _) | (with_reducible refine Kd.C_drew ?_))); (case side2 => exact HC0_2.out); rintro e w' ⟨rfl, ⟨nd, rfl⟩⟩; (try first | exact ⟨rfl, _, World.drewN_drewN _ _ _⟩ | exact ⟨rfl, _, Eq.trans (World.drewN_drewN _ _ _) (congrArg (World.drewN _) (Nat.add_assoc _ _ _))⟩)))
            repeat (go_quiet (first | (go_at_call 49; (with_reducible refine (spec_l12Place.calls k1 _ _ l0_2 (rd l1 x6_1) t158 _ ?side1 ?side2 A8.out).mono ?_); (case side1 => repeat (first | exact (Kd.C_below HR0_2.out HB.out) | (with_reducible refine Kd.C_alloc ?_ _) | (with_reducible refine Kd.C_drewN ?_ _) | (with_reducible refine Kd.C_drew ?_))); (case side2 => exact HC0_2.out); rintro e w' ⟨rfl, ⟨nd, rfl⟩⟩; (try first | exact ⟨rfl, _, World.drewN_drewN _ _ _⟩ | exact ⟨rfl, _, Eq.trans (World.drewN_drewN _ _ _) (congrArg (World.drewN _) (Nat.add_assoc _ _ _))⟩))); try go_wp2_with (first | (go_at_call 49; (with_reducible refine (spec_l12Place.calls k1 _ _ l0_2 (rd l1 x6_1) t158 _ ?side1 ?side2 A8.out).mono ?_); (case side1 => repeat (first | exact (Kd.C_below HR0_2.out HB.out) | (with_reducible refine Kd.C_alloc ?_ _) | (with_reducible refine Kd.C_drewN ?_ _) | (with_reducible refine Kd.C_drew ?_))); (case side2 => exact HC0_2.out); rintro e w' ⟨rfl, ⟨nd, rfl⟩⟩; (try first | exact ⟨rfl, _, World.drewN_drewN _ _ _⟩ | exact ⟨rfl, _, Eq.trans (World.drewN_drewN _ _ _) (congrArg (World.drewN _) (Nat.add_assoc _ _ _))⟩))))
            go_roundg k1
            case measure => have := HK1.out; omega
            case rel => exact ⟨(x5_1), (wrap64 (x6_1 + 1)), (by first | rfl | (simp; done) | (simp [*]; done)), H', ⟨by have := HK1.out; omega⟩, ⟨by (with_reducible repeat (first | apply Kd.R_alloc | apply Kd.R_drewN | apply Kd.R_drew)); exact HO_5.out⟩, ⟨by (with_reducible repeat (first | refine blk_drewN ?_ _ | refine blk_drew ?_ | refine blk_alloc ?_ _)); exact BK153.out⟩, ⟨by repeat (first | (with_reducible first | exact HB.out | apply below_alloc | apply pw_below_drewN | apply below_drew1 | refine below_set ?_ GE153.out) | exact HB.out)⟩⟩
        · rw [if_neg c7] at H
          exact absurd H (by simp)
      · rw [if_neg c6] at H
        have c6b0 : decide (x6_1 < (l1.length : Int)) = false := decide_eq_false c6
        clear c6
        obtain rfl := Option.some.inj H
        go_wp2
        repeat (go_quiet (fail); try go_wp2)
        go_ret
        exact ⟨_, by first | rfl | (simp [errW_none, errW_some] <;> rfl) | (simp [*, errW_none, errW_some] <;> rfl), by (with_reducible repeat (first | apply Kd.R_alloc | apply Kd.R_drewN | apply Kd.R_drew)); exact HO_5.out, by repeat (first | (with_reducible first | exact HB.out | apply below_alloc | apply pw_below_drewN | apply below_drew1 | refine below_set ?_ GE153.out) | exact HB.out)⟩

/-! ### spec_l13At: function 85 -/
def spec_l13At.l0 : Nat → List (S43) → Int → Int → Option (Int)
  | 0, _, _, _ => none
  | k + 1, x0, x1, x5 => if x5 < (x0.length : Int) then (if 0 ≤ x5 then (if ((rd_T43 x0 x5).f0) = x1 then (some x5) else (spec_l13At.l0 k x0 x1 (wrap64 (x5 + 1)))) else (none)) else (some (-1))
def spec_l13At.f (k : Nat) (l0 : List (S43)) (a1 : Int) : Option (Int) := spec_l13At.l0 k l0 a1 0
theorem spec_l13At.mono_l : ∀ k, (∀ y0 y1 y2, LeO (spec_l13At.l0 k y0 y1 y2) (spec_l13At.l0 (k + 1) y0 y1 y2))
  | 0 => fun _ _ _ r h => by simp [spec_l13At.l0] at h
  | k + 1 => by
    have ih0 := spec_l13At.mono_l k
    · intro y0 y1 y2
      unfold spec_l13At.l0
      repeat' first
      | (with_reducible exact ih0 _ _ _)
      | (with_reducible exact LeO.refl _)
      | (with_reducible exact LeO.none _)
      | (with_reducible refine LeO.ite ?_ ?_)
      | (with_reducible refine LeO.bind ?_ (fun _ => ?_))
      | exact ih0 _ _ _
      | exact LeO.none _
      | refine LeO.ite ?_ ?_
      | refine LeO.bind ?_ (fun _ => ?_)
theorem spec_l13At.mono : ∀ a0 a1 k, LeO (spec_l13At.f k a0 a1) (spec_l13At.f (k + 1) a0 a1) := by
  intro a0 a1 k
  have ih0 := spec_l13At.mono_l k
  unfold spec_l13At.f
  repeat' first
      | (with_reducible exact ih0 _ _ _)
      | (with_reducible exact LeO.refl _)
      | (with_reducible exact LeO.none _)
      | (with_reducible refine LeO.ite ?_ ?_)
      | (with_reducible refine LeO.bind ?_ (fun _ => ?_))
      | exact ih0 _ _ _
      | exact LeO.none _
      | refine LeO.ite ?_ ?_
      | refine LeO.bind ?_ (fun _ => ?_)
set_option maxHeartbeats 8000000 in
set_option maxRecDepth 100000 in
theorem spec_l13At.calls (k : Nat) (A0 : Option Addr) (c0 : Nat) (l0 : List (S43)) (a1 : Int) (r : Int) (w : World) (hr0 : Kd.C k43 w A0 l0.length l0) (hc0 : l0.length ≤ c0) (h : spec_l13At.f k l0 a1 = some r) :
    Calls Try.prog 85 #[.slice A0 l0.length c0, .int .i64 a1] w fun e w' => e = .returned (.int .i64 r) ∧ Drawn0 w w' := by
  have HR0 := Aside0.mk hr0
  have HC0 := Aside0.mk hc0
  clear hr0 hc0
  have H : (spec_l13At.l0 k l0 a1 0) = some r := h
  clear h
  have H' := Aside0.mk H
  clear H
  go_enter Try.func85, Try.ntmps85
  go_wp2
  go_loopg [5] k (fun kq v5 w' => ∃ (x5_1 : Int), v5 = .int .i64 x5_1 ∧ Aside0 (spec_l13At.l0 kq l0 a1 x5_1 = some r) ∧ Aside0 (kq ≤ k) ∧ Drawn0 w w')
  case atStart => exact ⟨(0), (by first | rfl | (simp; done) | (simp [*]; done)), H', ⟨Nat.le_refl _⟩, by repeat (first | exact Drawn0.refl _ | apply Drawn0.step)⟩
  case round =>
    clear H'
    try clear p2
    obtain ⟨x5_1, rfl, HA, HK1, ⟨m1, rfl⟩⟩ := hrel
    cases gk with
    | zero => exact absurd HA.out (by simp [spec_l13At.l0])
    | succ k1 =>
      have H := HA.out
      clear HA
      simp only [spec_l13At.l0] at H
      by_cases c3 : x5_1 < (l0.length : Int)
      · rw [if_pos c3] at H
        have c3b0 : decide (x5_1 < (l0.length : Int)) = true := decide_eq_true c3
        clear c3
        by_cases c4 : 0 ≤ x5_1
        · rw [if_pos c4] at H
          have c4b0 : decide (0 ≤ x5_1) = true := decide_eq_true c4
          clear c4
          by_cases c5 : ((rd_T43 l0 x5_1).f0) = a1
          · rw [if_pos c5] at H
            have c5b0 : (((rd_T43 l0 x5_1).f0) == a1) = true := beq_iff_eq.mpr c5
            have c5b1 : (((rd_T43 l0 x5_1).f0) != a1) = false := bne_eq_false_iff_eq.mpr c5
            clear c5
            obtain rfl := Option.some.inj H
            have p163 : 0 ≤ (x5_1 : Int) := of_decide_eq_true (by first | (with_reducible assumption) | assumption)
            have q163 : x5_1 < (l0.length : Int) := of_decide_eq_true (by first | (with_reducible assumption) | assumption)
            obtain ⟨ad163, A163_2, c163_2, e163, hx163_0, hx163_1, hx163_2, hx163_3, hl163_2, hi163_2⟩ := at_T43 HR0.out x5_1 p163 q163
            cases e163
            have HR163_2 := Aside0.mk hi163_2
            have HC163_2 := Aside0.mk hl163_2
            clear hi163_2 hl163_2
            replace p163 := eq_true p163
            replace q163 := eq_true q163
            go_wp2
            go_ret
            exact ⟨by first | rfl | (simp; done) | (simp [*]; done), by repeat (first | exact Drawn0.refl _ | apply Drawn0.step)⟩
          · rw [if_neg c5] at H
            have c5b0 : (((rd_T43 l0 x5_1).f0) == a1) = false := beq_eq_false_iff_ne.mpr c5
            have c5b1 : (((rd_T43 l0 x5_1).f0) != a1) = true := bne_iff_ne.mpr c5
            have H' := Aside0.mk H
            clear H
            have p163 : 0 ≤ (x5_1 : Int) := of_decide_eq_true (by first | (with_reducible assumption) | assumption)
            have q163 : x5_1 < (l0.length : Int) := of_decide_eq_true (by first | (with_reducible assumption) | assumption)
            obtain ⟨ad163, A163_2, c163_2, e163, hx163_0, hx163_1, hx163_2, hx163_3, hl163_2, hi163_2⟩ := at_T43 HR0.out x5_1 p163 q163
            cases e163
            have HR163_2 := Aside0.mk hi163_2
            have HC163_2 := Aside0.mk hl163_2
            clear hi163_2 hl163_2
            replace p163 := eq_true p163
            replace q163 := eq_true q163
            go_wp2
            go_roundg k1
            case measure => have := HK1.out; omega
            case rel => exact ⟨(wrap64 (x5_1 + 1)), (by first | rfl | (simp; done) | (simp [*]; done)), H', ⟨by have := HK1.out; omega⟩, by repeat (first | exact Drawn0.refl _ | apply Drawn0.step)⟩
        · rw [if_neg c4] at H
          exact absurd H (by simp)
      · rw [if_neg c3] at H
        have c3b0 : decide (x5_1 < (l0.length : Int)) = false := decide_eq_false c3
        clear c3
        obtain rfl := Option.some.inj H
        go_wp2
        go_ret
        exact ⟨by first | rfl | (simp; done) | (simp [*]; done), by repeat (first | exact Drawn0.refl _ | apply Drawn0.step)⟩

/-! ### spec_l00Own: function 119 -/
def spec_l00Own.f (l0 : List Int) : Option (List Int) := (some (([] : List Int) : List Int)).bind fun y164 => (if y164.length + l0.length < 17592186044416 then (some (y164 ++ l0)) else (none))
set_option maxHeartbeats 8000000 in
set_option maxRecDepth 100000 in
theorem spec_l00Own.calls (A0 : Option Addr) (c0 : Nat) (l0 : List Int) (r : List Int) (w : World) (hr0 : Kd.C (Kd.int .i64) w A0 l0.length l0) (hc0 : l0.length ≤ c0) (h : spec_l00Own.f l0 = some r) :
    Calls Try.prog 119 #[.slice A0 l0.length c0] w fun e w' => ∃ v0_ : Value, e = .returned (v0_) ∧ Kd.R (Kd.int .i64) 2 w' w.heap.size (fun _ => True) v0_ r ∧ Below w.heap.size w w' := by
  have HR0 := Aside0.mk hr0
  have HC0 := Aside0.mk hc0
  clear hr0 hc0
  have HB := Aside0.mk (Below.refl w.heap.size w)
  have H : ((some (([] : List Int) : List Int)).bind fun y164 => (if y164.length + l0.length < 17592186044416 then (some (y164 ++ l0)) else (none))) = some r := h
  clear h
  obtain ⟨y164, hy164⟩ : ∃ y_ : List Int, y_ = (([] : List Int)) := ⟨_, rfl⟩
  replace H : (if y164.length + l0.length < 17592186044416 then (some (y164 ++ l0)) else (none)) = some r := by first | (rw [hy164]; with_reducible exact H) | (have H2_ := (Option.bind_some _ _).symm.trans H; rw [hy164]; with_reducible exact H2_) | (have H2_ := (Option.bind_some _ _).symm.trans H; with_reducible exact H2_) | with_reducible exact H | (rw [hy164]; exact H) | exact H
  have Ny164 := Aside0.mk hy164
  clear hy164
  by_cases c2 : y164.length + l0.length < 17592186044416
  · rw [if_pos c2] at H
    have LMc2 := Aside0.mk c2
    clear c2
    obtain ⟨y167, hy167⟩ : ∃ y_ : List Int, y_ = (y164 ++ l0) := ⟨_, rfl⟩
    replace H : (some y167) = some r := by first | (rw [hy167]; with_reducible exact H) | (have H2_ := (Option.bind_some _ _).symm.trans H; rw [hy167]; with_reducible exact H2_) | (have H2_ := (Option.bind_some _ _).symm.trans H; with_reducible exact H2_) | with_reducible exact H | (rw [hy167]; exact H) | exact H
    have Ny167 := Aside0.mk hy167
    clear hy167
    obtain rfl := Option.some.inj H
    go_enter Try.func119, Try.ntmps119
    go_wp2_with (first | ((with_reducible refine gate_dst (N := 3) rfl ?_); refine Kd.R_lit (Kd.int .i64) _ 2 ?hg (N := 3) ?hd (xs := ([] : List Int)) (inner := []) (ok := fun _ => True) (okp := fun _ => True) ?hr ?hp (fun _ hk => hk) trivial (Below.refl _ _) (Nat.le_refl _) (by simp) ?_; (case hd => rfl); (case hg => rfl); (case hr => first | (go_simp; done) | (go_simp; rfl)); (case hp => exact (Reps.none _ _)); intro v165 w3 ho4 hb hg_ hnew_; clear hg_ hnew_; (first | rw [← Ny164.out] at ho4 | (simp only [Int.reduceToNat] at ho4; rw [← Ny164.out] at ho4)); have n0_ := Aside0.mk (Kd.R_lower ho4 (below_size (by repeat (first | (with_reducible first | exact HB.out | apply below_alloc | apply pw_below_drewN | apply below_drew1) | exact HB.out)))); have n1_ := Aside0.mk (below_step (by repeat (first | (with_reducible first | exact HB.out | apply below_alloc | apply pw_below_drewN | apply below_drew1) | exact HB.out)) hb); clear HB; have HO166 := n0_; have HB := n1_; clear n0_ n1_; clear hb ho4) | ((with_reducible refine gate_builtin (b := .append) (xs := #[.tmp 3, .tmp 4]) rfl ?_); at_builtin; refine Kd.R_append_rows (Kd.int .i64) (w0 := w) w.heap.size rfl (.tmp 3) (.tmp 4) 22 2 (.int .i64 0) 8 rfl Try.underlying22 info2 rfl (by decide) (by omega) v165 y164 l0 _ _ _ (fun _ => True) (fun _ => False) rfl rfl ?aO ?aR (fun _ _ h => h) (fun _ h => h.elim) ?aF ?aB ?aS ?aL ?_; (case aR => repeat (first | exact (Kd.C_below HR0.out HB.out) | (with_reducible refine Kd.C_alloc ?_ _) | (with_reducible refine Kd.C_drewN ?_ _) | (with_reducible refine Kd.C_drew ?_))); (case aB => exact (by repeat (first | (with_reducible first | exact HB.out | apply below_alloc | apply pw_below_drewN | apply below_drew1) | exact HB.out))); (case aF => exact (fun _ _ => trivial)); (case aO => exact (by (with_reducible repeat (first | apply Kd.R_alloc | apply Kd.R_drewN | apply Kd.R_drew)); exact HO166.out)); (case aS => exact (below_size (by repeat (first | (with_reducible first | exact HB.out | apply below_alloc | apply pw_below_drewN | apply below_drew1) | exact HB.out)))); (case aL => have := LMc2.out; omega); intro v168 w5 ho hb hg hat; rw [← Ny167.out] at ho; have n0_ := Aside0.mk (hb); have n1_ := Aside0.mk (ho); clear HB; clear HO166; have HB := n0_; have HO169 := n1_; clear n0_ n1_; clear ho hb hg hat))
    go_ret
    exact ⟨_, by first | rfl | (simp [errW_none, errW_some] <;> rfl) | (simp [*, errW_none, errW_some] <;> rfl), by (with_reducible repeat (first | apply Kd.R_alloc | apply Kd.R_drewN | apply Kd.R_drew)); exact HO169.out, by repeat (first | (with_reducible first | exact HB.out | apply below_alloc | apply pw_below_drewN | apply below_drew1) | exact HB.out)⟩
  · rw [if_neg c2] at H
    exact absurd H (by simp)

end Go.Proofs.Ytfeaokelfbjcdaa.MFnExactHeardEnough
