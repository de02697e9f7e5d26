-- Written by a program of this session (wip/tools/myprint.py) over the kit's print: it is not the kit's print.
import Derived.Test.YtfeaokelfbjcdaaExtra
import Derived.Ground.SlgfProg
import Derived.Shelf.SlicesE.DeleteFunc
import Derived.Sort.OwnSortedInts
import Derived.Ground.SlgnProg
import Derived.Shelf.SortG.SortNone
import Derived.Shelf.SortG.Plain
import Derived.Lib.SliceRun
import Derived.Test.YtfeaokelfbjcdaaMFnHeardx0
import Derived.Test.YtfeaokelfbjcdaaMFnHeardx3
namespace Go.Proofs.Ytfeaokelfbjcdaa.MFnHeard
open Go.RowKit Go.Proofs.YtfeaokelfbjcdaaW.PrintWords Go.Proofs.YtfeaokelfbjcdaaW.PrintLast Go.Proofs.YtfeaokelfbjcdaaW.PrintMore
open List renaming map_toArray → mta, map_cons → mco, map_nil → mni, length_drop → lnd, length_take → lnt
open World renaming block_lt_of_cell? → blc
attribute [local go_sem] max2_int min2_int max_two min_two max_three min_three max_four min_four   -- for this text's walks alone
set_option linter.unusedVariables false
set_option linter.unusedSimpArgs false

/-! ### impl_IntervalsOk: function 30 -/
def impl_IntervalsOk.l0 : Nat → List (S43) → Int → List (S43) → Int → Int → Option (Bool)
 | 0, _, _, _, _, _ => none
 | k + 1, x0, x3, x6, x7, x8 => if x8 < x7 then (if 0 ≤ x8 then (if x8 < (x6.length : Int) then (if ((rd_T43 x6 x8).f0) = x3 then ((impl_between.f ((rd_T43 x6 x8).f1) ((rd_T43 x6 x8).f0) 60).bind fun t188 => (if t188 = true then ((impl_ActingOk.f k ((rd_T43 x6 x8).f2)).bind fun t189 => (if t189 = true then (if 0 < (x0.length : Int) then (if (((rd_T43 x6 x8).f2).length : Int) = (((rd_T43 x0 0).f2).length : Int) then (impl_IntervalsOk.l0 k x0 (wrap64 (((rd_T43 x6 x8).f1) + 1)) x6 x7 (wrap64 (x8 + 1))) else (some false)) else (none)) else (some false))) else (some false))) else (some false)) else (none)) else (none)) else (some (decide ((x0.length : Int) ≤ 60)))
def impl_IntervalsOk.f (k : Nat) (l0 : List (S43)) : Option (Bool) := impl_IntervalsOk.l0 k l0 1 l0 (l0.length : Int) 0
theorem impl_IntervalsOk.mono_l : ∀ k, (∀ y0 y1 y2 y3 y4, LeO (impl_IntervalsOk.l0 k y0 y1 y2 y3 y4) (impl_IntervalsOk.l0 (k + 1) y0 y1 y2 y3 y4))
 | 0 => fun _ _ _ _ _ r h => by simp [impl_IntervalsOk.l0] at h
 | k + 1 => by
  have ih0 := impl_IntervalsOk.mono_l k
  ·intro y0 y1 y2 y3 y4
   unfold impl_IntervalsOk.l0
   repeat' first
   | (with_reducible exact ih0 _ _ _ _ _)
   | (with_reducible exact impl_ActingOk.mono _ _)
   | (with_reducible exact LeO.refl _)
   | (with_reducible exact LeO.none _)
   | (with_reducible refine LeO.ite ?_ ?_)
   | (with_reducible refine LeO.bind ?_ (fun _ => ?_))
   | exact ih0 _ _ _ _ _
   | exact impl_ActingOk.mono _ _
   | exact LeO.none _
   | refine LeO.ite ?_ ?_
   | refine LeO.bind ?_ (fun _ => ?_)
theorem impl_IntervalsOk.mono : ∀ a0 k, LeO (impl_IntervalsOk.f k a0) (impl_IntervalsOk.f (k + 1) a0) := by
 intro a0 k
 have ih0 := impl_IntervalsOk.mono_l k
 unfold impl_IntervalsOk.f
 repeat' first
   | (with_reducible exact ih0 _ _ _ _ _)
   | (with_reducible exact impl_ActingOk.mono _ _)
   | (with_reducible exact LeO.refl _)
   | (with_reducible exact LeO.none _)
   | (with_reducible refine LeO.ite ?_ ?_)
   | (with_reducible refine LeO.bind ?_ (fun _ => ?_))
   | exact ih0 _ _ _ _ _
   | exact impl_ActingOk.mono _ _
   | exact LeO.none _
   | refine LeO.ite ?_ ?_
   | refine LeO.bind ?_ (fun _ => ?_)
set_option maxHeartbeats 8000000 in
set_option maxRecDepth 100000 in
theorem impl_IntervalsOk.calls (k : Nat) (A0 : Option Addr) (c0 : Nat) (l0 : List (S43)) (r : Bool) (w : World) (hr0 : Kd.C k43 w A0 l0.length l0) (hc0 : l0.length ≤ c0) (h : impl_IntervalsOk.f k l0 = some r) :
  Calls Try.prog 30 #[.slice A0 l0.length c0] w fun e w' => e = .returned (.bool r) ∧ Below w.heap.size w w' := by
 have hu43 := Try.underlying43
 have HR0 := am hr0
 have HC0 := am hc0
 clear hr0 hc0
 have HB := am (Below.refl w.heap.size w)
 have H : (impl_IntervalsOk.l0 k l0 1 l0 (l0.length : Int) 0) = some r := h
 clear h
 have H' := am H
 clear H
 go_enter Try.func30, Try.ntmps30
 go_wp2
 repeat (go_quiet (fail); try go_wp2)
 go_loopg [3, 8] k (fun kq v3 v8 w' => ∃ (x3_1 : Int) (x8_1 : Int), v3 = .int .i64 x3_1 ∧ v8 = .int .i64 x8_1 ∧ Aside0 (impl_IntervalsOk.l0 kq l0 x3_1 l0 (l0.length : Int) x8_1 = some r) ∧ Aside0 (kq ≤ k) ∧ Aside0 (Below w.heap.size w w'))
 case atStart => exact ⟨(1), (0), (by first | rfl | (simp; done) | (simp [*]; done)), (by first | rfl | (simp; done) | (simp [*]; done)), H', ⟨Nat.le_refl _⟩, ⟨by repeat (first | (with_reducible first | exact HB.out | apply bal | apply pdn | apply bd1) | exact HB.out)⟩⟩
 case round =>
  clear H'
  obtain ⟨x3_1, x8_1, rfl, rfl, HA, HK1, HB⟩ := hrel
  cases gk with
  | zero => exact absurd HA.out (by simp [impl_IntervalsOk.l0])
  | succ k1 =>
   have H := HA.out
   clear HA
   simp only [impl_IntervalsOk.l0] at H
   by_cases c2 : x8_1 < (l0.length : Int)
   ·rw [if_pos c2] at H
    have c2b0 : decide (x8_1 < (l0.length : Int)) = true := decide_eq_true c2
    clear c2
    by_cases c3 : 0 ≤ x8_1
    ·rw [if_pos c3] at H
     have c3b0 : decide (0 ≤ x8_1) = true := decide_eq_true c3
     clear c3
     by_cases c4 : x8_1 < (l0.length : Int)
     ·rw [if_pos c4] at H
      have c4b0 : decide (x8_1 < (l0.length : Int)) = true := decide_eq_true c4
      clear c4
      by_cases c5 : ((rd_T43 l0 x8_1).f0) = x3_1
      ·rw [if_pos c5] at H
       have c5b0 : (((rd_T43 l0 x8_1).f0) == x3_1) = true := beq_iff_eq.mpr c5
       have c5b1 : (((rd_T43 l0 x8_1).f0) != x3_1) = false := bne_eq_false_iff_eq.mpr c5
       clear c5
       replace H := Option.bind_eq_some_iff.mp H
       obtain ⟨t188, A60, H⟩ := H
       replace H : (if t188 = true then ((impl_ActingOk.f k1 ((rd_T43 l0 x8_1).f2)).bind fun t189 => (if t189 = true then (if 0 < (l0.length : Int) then (if (((rd_T43 l0 x8_1).f2).length : Int) = (((rd_T43 l0 0).f2).length : Int) then (impl_IntervalsOk.l0 k1 l0 (wrap64 (((rd_T43 l0 x8_1).f1) + 1)) l0 (l0.length : Int) (wrap64 (x8_1 + 1))) else (some false)) else (none)) else (some false))) else (some false)) = some r := H
       have A6 := am A60
       clear A60
       by_cases c7 : t188 = true
       ·subst c7
        have H1 : ((impl_ActingOk.f k1 ((rd_T43 l0 x8_1).f2)).bind fun t189 => (if t189 = true then (if 0 < (l0.length : Int) then (if (((rd_T43 l0 x8_1).f2).length : Int) = (((rd_T43 l0 0).f2).length : Int) then (impl_IntervalsOk.l0 k1 l0 (wrap64 (((rd_T43 l0 x8_1).f1) + 1)) l0 (l0.length : Int) (wrap64 (x8_1 + 1))) else (some false)) else (none)) else (some false))) = some r := by rw [if_pos rfl] at H; exact H
        clear H
        have H := H1
        clear H1
        replace H := Option.bind_eq_some_iff.mp H
        obtain ⟨t189, A80, H⟩ := H
        replace H : (if t189 = true then (if 0 < (l0.length : Int) then (if (((rd_T43 l0 x8_1).f2).length : Int) = (((rd_T43 l0 0).f2).length : Int) then (impl_IntervalsOk.l0 k1 l0 (wrap64 (((rd_T43 l0 x8_1).f1) + 1)) l0 (l0.length : Int) (wrap64 (x8_1 + 1))) else (some false)) else (none)) else (some false)) = some r := H
        have A8 := am A80
        clear A80
        by_cases c9 : t189 = true
        ·subst c9
         have H1 : (if 0 < (l0.length : Int) then (if (((rd_T43 l0 x8_1).f2).length : Int) = (((rd_T43 l0 0).f2).length : Int) then (impl_IntervalsOk.l0 k1 l0 (wrap64 (((rd_T43 l0 x8_1).f1) + 1)) l0 (l0.length : Int) (wrap64 (x8_1 + 1))) else (some false)) else (none)) = some r := by rw [if_pos rfl] at H; exact H
         clear H
         have H := H1
         clear H1
         by_cases c10 : 0 < (l0.length : Int)
         ·rw [if_pos c10] at H
          have c10b0 : decide (0 < (l0.length : Int)) = true := decide_eq_true c10
          have c10b1 : decide (0 < l0.length) = true := decide_eq_true (by omega)
          clear c10
          by_cases c11 : (((rd_T43 l0 x8_1).f2).length : Int) = (((rd_T43 l0 0).f2).length : Int)
          ·rw [if_pos c11] at H
           have c11b0 : ((((rd_T43 l0 x8_1).f2).length : Int) == (((rd_T43 l0 0).f2).length : Int)) = true := beq_iff_eq.mpr c11
           have c11b1 : ((((rd_T43 l0 x8_1).f2).length : Int) != (((rd_T43 l0 0).f2).length : Int)) = false := bne_eq_false_iff_eq.mpr c11
           have c11b2 : (((rd_T43 l0 x8_1).f2).length == ((rd_T43 l0 0).f2).length) = true := by first | simpa using c11 | (simp at c11 ⊢; omega)
           clear c11
           have H' := am H
           clear H
           have p186 : 0 ≤ (x8_1 : Int) := of_decide_eq_true (by first | (with_reducible assumption) | assumption)
           have q186 : x8_1 < (l0.length : Int) := of_decide_eq_true (by first | (with_reducible assumption) | assumption)
           obtain ⟨ad186, A186_2, c186_2, e186, hx186_0, hx186_1, hx186_2, hx186_3, hl186_2, hi186_2⟩ := at_T43 HR0.out x8_1 p186 q186
           cases e186
           replace hx186_0 := (HB.out.cell (blc w _ hx186_0)).trans hx186_0
           replace hx186_1 := (HB.out.cell (blc w _ hx186_1)).trans hx186_1
           replace hx186_2 := (HB.out.cell (blc w _ hx186_2)).trans hx186_2
           replace hx186_3 := (HB.out.cell (blc w _ hx186_3)).trans hx186_3
           have HR186_2 := am hi186_2
           have HC186_2 := am hl186_2
           clear hi186_2 hl186_2
           replace p186 := eq_true p186
           replace q186 := eq_true q186
           try (have p190 : 0 ≤ (0 : Int) := (by omega); have q190 : 0 < (l0.length : Int) := of_decide_eq_true (by first | (with_reducible assumption) | assumption); obtain ⟨ad190, A190_2, c190_2, e190, hx190_0, hx190_1, hx190_2, hx190_3, hl190_2, hi190_2⟩ := at_T43 HR0.out 0 p190 q190; obtain rfl : ad186 = ad190 := (by injection e190); have qi190 : (0 < l0.length) = True := eq_true (by omega); (try rw [show ((0 : Int)).toNat = 0 from rfl] at hx190_0); (try rw [show 0 * 4 = 0 from rfl] at hx190_0); (try rw [Addr.add_zero'] at hx190_0); (try rw [show ((0 : Int)).toNat = 0 from rfl] at hx190_1); (try rw [show 0 * 4 = 0 from rfl] at hx190_1); (try rw [Addr.add_zero'] at hx190_1); (try rw [show ((0 : Int)).toNat = 0 from rfl] at hx190_2); (try rw [show 0 * 4 = 0 from rfl] at hx190_2); (try rw [Addr.add_zero'] at hx190_2); (try rw [show ((0 : Int)).toNat = 0 from rfl] at hx190_3); (try rw [show 0 * 4 = 0 from rfl] at hx190_3); (try rw [Addr.add_zero'] at hx190_3); have hn190_0 : ad186.block ≠ gb187 := Nat.ne_of_lt (Nat.lt_of_lt_of_le (by have := blc _ _ hx190_0; first | rwa [add_block] at this | exact this) GW187.out); have hn190_1 : ad186.block ≠ gb187 := Nat.ne_of_lt (Nat.lt_of_lt_of_le (by have := blc _ _ hx190_0; first | rwa [add_block] at this | exact this) GW187.out); have hn190_2 : ad186.block ≠ gb187 := Nat.ne_of_lt (Nat.lt_of_lt_of_le (by have := blc _ _ hx190_0; first | rwa [add_block] at this | exact this) GW187.out); have hn190_3 : ad186.block ≠ gb187 := Nat.ne_of_lt (Nat.lt_of_lt_of_le (by have := blc _ _ hx190_0; first | rwa [add_block] at this | exact this) GW187.out); replace hx190_0 := (HB.out.cell (blc w _ hx190_0)).trans hx190_0; replace hx190_1 := (HB.out.cell (blc w _ hx190_1)).trans hx190_1; replace hx190_2 := (HB.out.cell (blc w _ hx190_2)).trans hx190_2; replace hx190_3 := (HB.out.cell (blc w _ hx190_3)).trans hx190_3; have HR190_2 := am hi190_2; have HC190_2 := am hl190_2; clear hi190_2 hl190_2; replace hx190_0 := (cell_far (p := ⟨gb187, 0, none⟩) (by first | (rw [add_block]; exact hn190_0) | (show (Addr.add _ _).block ≠ _; rw [add_block]; exact hn190_0) | exact hn190_0) (.int .i64 ((rd_T43 l0 x8_1).f0))).trans hx190_0; replace hx190_1 := (cell_far (p := ⟨gb187, 0, none⟩) (by first | (rw [add_block]; exact hn190_0) | (show (Addr.add _ _).block ≠ _; rw [add_block]; exact hn190_0) | exact hn190_0) (.int .i64 ((rd_T43 l0 x8_1).f0))).trans hx190_1; replace hx190_2 := (cell_far (p := ⟨gb187, 0, none⟩) (by first | (rw [add_block]; exact hn190_0) | (show (Addr.add _ _).block ≠ _; rw [add_block]; exact hn190_0) | exact hn190_0) (.int .i64 ((rd_T43 l0 x8_1).f0))).trans hx190_2; replace hx190_3 := (cell_far (p := ⟨gb187, 0, none⟩) (by first | (rw [add_block]; exact hn190_0) | (show (Addr.add _ _).block ≠ _; rw [add_block]; exact hn190_0) | exact hn190_0) (.int .i64 ((rd_T43 l0 x8_1).f0))).trans hx190_3; replace hx190_0 := (cell_far (p := ⟨gb187, 1, none⟩) (by first | (rw [add_block]; exact hn190_1) | (show (Addr.add _ _).block ≠ _; rw [add_block]; exact hn190_1) | exact hn190_1) (.int .i64 ((rd_T43 l0 x8_1).f1))).trans hx190_0; replace hx190_1 := (cell_far (p := ⟨gb187, 1, none⟩) (by first | (rw [add_block]; exact hn190_1) | (show (Addr.add _ _).block ≠ _; rw [add_block]; exact hn190_1) | exact hn190_1) (.int .i64 ((rd_T43 l0 x8_1).f1))).trans hx190_1; replace hx190_2 := (cell_far (p := ⟨gb187, 1, none⟩) (by first | (rw [add_block]; exact hn190_1) | (show (Addr.add _ _).block ≠ _; rw [add_block]; exact hn190_1) | exact hn190_1) (.int .i64 ((rd_T43 l0 x8_1).f1))).trans hx190_2; replace hx190_3 := (cell_far (p := ⟨gb187, 1, none⟩) (by first | (rw [add_block]; exact hn190_1) | (show (Addr.add _ _).block ≠ _; rw [add_block]; exact hn190_1) | exact hn190_1) (.int .i64 ((rd_T43 l0 x8_1).f1))).trans hx190_3; replace hx190_0 := (cell_far (p := ⟨gb187, 2, none⟩) (by first | (rw [add_block]; exact hn190_2) | (show (Addr.add _ _).block ≠ _; rw [add_block]; exact hn190_2) | exact hn190_2) (.slice A186_2 ((rd_T43 l0 x8_1).f2).length c186_2)).trans hx190_0; replace hx190_1 := (cell_far (p := ⟨gb187, 2, none⟩) (by first | (rw [add_block]; exact hn190_2) | (show (Addr.add _ _).block ≠ _; rw [add_block]; exact hn190_2) | exact hn190_2) (.slice A186_2 ((rd_T43 l0 x8_1).f2).length c186_2)).trans hx190_1; replace hx190_2 := (cell_far (p := ⟨gb187, 2, none⟩) (by first | (rw [add_block]; exact hn190_2) | (show (Addr.add _ _).block ≠ _; rw [add_block]; exact hn190_2) | exact hn190_2) (.slice A186_2 ((rd_T43 l0 x8_1).f2).length c186_2)).trans hx190_2; replace hx190_3 := (cell_far (p := ⟨gb187, 2, none⟩) (by first | (rw [add_block]; exact hn190_2) | (show (Addr.add _ _).block ≠ _; rw [add_block]; exact hn190_2) | exact hn190_2) (.slice A186_2 ((rd_T43 l0 x8_1).f2).length c186_2)).trans hx190_3; replace hx190_0 := (cell_far (p := ⟨gb187, 3, none⟩) (by first | (rw [add_block]; exact hn190_3) | (show (Addr.add _ _).block ≠ _; rw [add_block]; exact hn190_3) | exact hn190_3) (.bool ((rd_T43 l0 x8_1).f3))).trans hx190_0; replace hx190_1 := (cell_far (p := ⟨gb187, 3, none⟩) (by first | (rw [add_block]; exact hn190_3) | (show (Addr.add _ _).block ≠ _; rw [add_block]; exact hn190_3) | exact hn190_3) (.bool ((rd_T43 l0 x8_1).f3))).trans hx190_1; replace hx190_2 := (cell_far (p := ⟨gb187, 3, none⟩) (by first | (rw [add_block]; exact hn190_3) | (show (Addr.add _ _).block ≠ _; rw [add_block]; exact hn190_3) | exact hn190_3) (.bool ((rd_T43 l0 x8_1).f3))).trans hx190_2; replace hx190_3 := (cell_far (p := ⟨gb187, 3, none⟩) (by first | (rw [add_block]; exact hn190_3) | (show (Addr.add _ _).block ≠ _; rw [add_block]; exact hn190_3) | exact hn190_3) (.bool ((rd_T43 l0 x8_1).f3))).trans hx190_3; (try have hy190_0 := fun (n_ : Nat) => (show ((((((w12.drewN n_).setCell ⟨gb187, 0, none⟩ (.int .i64 ((rd_T43 l0 x8_1).f0))).setCell ⟨gb187, 1, none⟩ (.int .i64 ((rd_T43 l0 x8_1).f1))).setCell ⟨gb187, 2, none⟩ (.slice A186_2 ((rd_T43 l0 x8_1).f2).length c186_2)).setCell ⟨gb187, 3, none⟩ (.bool ((rd_T43 l0 x8_1).f3)))).cell? _ = some _ from hx190_0)); (try have hy190_1 := fun (n_ : Nat) => (show ((((((w12.drewN n_).setCell ⟨gb187, 0, none⟩ (.int .i64 ((rd_T43 l0 x8_1).f0))).setCell ⟨gb187, 1, none⟩ (.int .i64 ((rd_T43 l0 x8_1).f1))).setCell ⟨gb187, 2, none⟩ (.slice A186_2 ((rd_T43 l0 x8_1).f2).length c186_2)).setCell ⟨gb187, 3, none⟩ (.bool ((rd_T43 l0 x8_1).f3)))).cell? _ = some _ from hx190_1)); (try have hy190_2 := fun (n_ : Nat) => (show ((((((w12.drewN n_).setCell ⟨gb187, 0, none⟩ (.int .i64 ((rd_T43 l0 x8_1).f0))).setCell ⟨gb187, 1, none⟩ (.int .i64 ((rd_T43 l0 x8_1).f1))).setCell ⟨gb187, 2, none⟩ (.slice A186_2 ((rd_T43 l0 x8_1).f2).length c186_2)).setCell ⟨gb187, 3, none⟩ (.bool ((rd_T43 l0 x8_1).f3)))).cell? _ = some _ from hx190_2)); (try have hy190_3 := fun (n_ : Nat) => (show ((((((w12.drewN n_).setCell ⟨gb187, 0, none⟩ (.int .i64 ((rd_T43 l0 x8_1).f0))).setCell ⟨gb187, 1, none⟩ (.int .i64 ((rd_T43 l0 x8_1).f1))).setCell ⟨gb187, 2, none⟩ (.slice A186_2 ((rd_T43 l0 x8_1).f2).length c186_2)).setCell ⟨gb187, 3, none⟩ (.bool ((rd_T43 l0 x8_1).f3)))).cell? _ = some _ from hx190_3)); clear hn190_0; clear hn190_1; clear hn190_2; clear hn190_3; replace p190 := eq_true p190; replace q190 := eq_true q190)
           go_wp2_with (first | ((with_reducible refine gate_dst (N := 5) rfl ?_); (try (refine gate_guard (by rfl) ?_; dsimp only)); refine box_event ?hg (N := 5) ?hd (cs := #[.int .i64 0, .int .i64 0, .slice none 0 0, .bool false]) (t := 43) ?hr ?_; (case hd => rfl); (case hg => rfl); (case hr => first | (go_simp; done) | (go_simp; rfl)); intro gb187 hg w12 hbox hb; have n0_ := am (below_step (by repeat (first | (with_reducible first | exact HB.out | apply bal | apply pdn | apply bd1) | exact HB.out)) hb); have n1_ := am (hbox); have n2_ := am ((by rw [hg]; exact (below_size (by repeat (first | (with_reducible first | exact HB.out | apply bal | apply pdn | apply bd1) | exact HB.out))) : w.heap.size ≤ gb187)); have n3_ := am ((by rw [hg]; exact (below_size (by repeat (first | (with_reducible first | exact HB.out | apply bal | apply pdn | apply bd1) | exact HB.out))) : w.heap.size ≤ gb187)); clear HB; have HB := n0_; have BK187 := n1_; have GW187 := n2_; have GE187 := n3_; clear n0_ n1_ n2_ n3_; clear hb hbox hg; have hcz13_0 : w12.cell? ⟨gb187, 0, none⟩ = some (.int .i64 0) := (kce BK187.out 0).trans rfl; have hcz13_1 : w12.cell? ⟨gb187, 1, none⟩ = some (.int .i64 0) := (kce BK187.out 1).trans rfl; have hcz13_2 : w12.cell? ⟨gb187, 2, none⟩ = some (.slice none 0 0) := (kce BK187.out 2).trans rfl; have hcz13_3 : w12.cell? ⟨gb187, 3, none⟩ = some (.bool false) := (kce BK187.out 3).trans rfl; have hfz13_0 := kfr BK187.out 0; have hfz13_1 := kfr BK187.out 1; have hfz13_2 := kfr BK187.out 2; have hfz13_3 := kfr BK187.out 3) | (go_at_call 47; (with_reducible refine (impl_between.calls ((rd_T43 l0 x8_1).f1) ((rd_T43 l0 x8_1).f0) 60 true _ A6.out).mono ?_); rintro e w' ⟨rfl, ⟨nd, rfl⟩⟩; (try first | exact ⟨rfl, _, World.drewN_drewN _ _ _⟩ | exact ⟨rfl, _, Eq.trans (World.drewN_drewN _ _ _) (congrArg (World.drewN _) (Nat.add_assoc _ _ _))⟩)) | (go_at_call 15; (with_reducible refine (impl_ActingOk.calls k1 _ _ ((rd_T43 l0 x8_1).f2) true _ ?side1 ?side2 A8.out).mono ?_); (case side1 => exact Kd.C_below HR186_2.out (by repeat (first | (with_reducible first | exact HB.out | apply bal | apply pdn | apply bd1 | refine bst ?_ GE187.out) | exact HB.out))); (case side2 => exact HC186_2.out); rintro e w' ⟨rfl, ⟨nd, rfl⟩⟩; (try first | exact ⟨rfl, _, World.drewN_drewN _ _ _⟩ | exact ⟨rfl, _, Eq.trans (World.drewN_drewN _ _ _) (congrArg (World.drewN _) (Nat.add_assoc _ _ _))⟩); have p190 : 0 ≤ (0 : Int) := (by omega); have q190 : 0 < (l0.length : Int) := of_decide_eq_true (by first | (with_reducible assumption) | assumption); obtain ⟨ad190, A190_2, c190_2, e190, hx190_0, hx190_1, hx190_2, hx190_3, hl190_2, hi190_2⟩ := at_T43 HR0.out 0 p190 q190; obtain rfl : ad186 = ad190 := (by injection e190); have qi190 : (0 < l0.length) = True := eq_true (by omega); (try rw [show ((0 : Int)).toNat = 0 from rfl] at hx190_0); (try rw [show 0 * 4 = 0 from rfl] at hx190_0); (try rw [Addr.add_zero'] at hx190_0); (try rw [show ((0 : Int)).toNat = 0 from rfl] at hx190_1); (try rw [show 0 * 4 = 0 from rfl] at hx190_1); (try rw [Addr.add_zero'] at hx190_1); (try rw [show ((0 : Int)).toNat = 0 from rfl] at hx190_2); (try rw [show 0 * 4 = 0 from rfl] at hx190_2); (try rw [Addr.add_zero'] at hx190_2); (try rw [show ((0 : Int)).toNat = 0 from rfl] at hx190_3); (try rw [show 0 * 4 = 0 from rfl] at hx190_3); (try rw [Addr.add_zero'] at hx190_3); have hn190_0 : ad186.block ≠ gb187 := Nat.ne_of_lt (Nat.lt_of_lt_of_le (by have := blc _ _ hx190_0; first | rwa [add_block] at this | exact this) GW187.out); have hn190_1 : ad186.block ≠ gb187 := Nat.ne_of_lt (Nat.lt_of_lt_of_le (by have := blc _ _ hx190_0; first | rwa [add_block] at this | exact this) GW187.out); have hn190_2 : ad186.block ≠ gb187 := Nat.ne_of_lt (Nat.lt_of_lt_of_le (by have := blc _ _ hx190_0; first | rwa [add_block] at this | exact this) GW187.out); have hn190_3 : ad186.block ≠ gb187 := Nat.ne_of_lt (Nat.lt_of_lt_of_le (by have := blc _ _ hx190_0; first | rwa [add_block] at this | exact this) GW187.out); replace hx190_0 := (HB.out.cell (blc w _ hx190_0)).trans hx190_0; replace hx190_1 := (HB.out.cell (blc w _ hx190_1)).trans hx190_1; replace hx190_2 := (HB.out.cell (blc w _ hx190_2)).trans hx190_2; replace hx190_3 := (HB.out.cell (blc w _ hx190_3)).trans hx190_3; have HR190_2 := am hi190_2; have HC190_2 := am hl190_2; clear hi190_2 hl190_2; replace hx190_0 := (cell_far (p := ⟨gb187, 0, none⟩) (by first | (rw [add_block]; exact hn190_0) | (show (Addr.add _ _).block ≠ _; rw [add_block]; exact hn190_0) | exact hn190_0) (.int .i64 ((rd_T43 l0 x8_1).f0))).trans hx190_0; replace hx190_1 := (cell_far (p := ⟨gb187, 0, none⟩) (by first | (rw [add_block]; exact hn190_0) | (show (Addr.add _ _).block ≠ _; rw [add_block]; exact hn190_0) | exact hn190_0) (.int .i64 ((rd_T43 l0 x8_1).f0))).trans hx190_1; replace hx190_2 := (cell_far (p := ⟨gb187, 0, none⟩) (by first | (rw [add_block]; exact hn190_0) | (show (Addr.add _ _).block ≠ _; rw [add_block]; exact hn190_0) | exact hn190_0) (.int .i64 ((rd_T43 l0 x8_1).f0))).trans hx190_2; replace hx190_3 := (cell_far (p := ⟨gb187, 0, none⟩) (by first | (rw [add_block]; exact hn190_0) | (show (Addr.add _ _).block ≠ _; rw [add_block]; exact hn190_0) | exact hn190_0) (.int .i64 ((rd_T43 l0 x8_1).f0))).trans hx190_3; replace hx190_0 := (cell_far (p := ⟨gb187, 1, none⟩) (by first | (rw [add_block]; exact hn190_1) | (show (Addr.add _ _).block ≠ _; rw [add_block]; exact hn190_1) | exact hn190_1) (.int .i64 ((rd_T43 l0 x8_1).f1))).trans hx190_0; replace hx190_1 := (cell_far (p := ⟨gb187, 1, none⟩) (by first | (rw [add_block]; exact hn190_1) | (show (Addr.add _ _).block ≠ _; rw [add_block]; exact hn190_1) | exact hn190_1) (.int .i64 ((rd_T43 l0 x8_1).f1))).trans hx190_1; replace hx190_2 := (cell_far (p := ⟨gb187, 1, none⟩) (by first | (rw [add_block]; exact hn190_1) | (show (Addr.add _ _).block ≠ _; rw [add_block]; exact hn190_1) | exact hn190_1) (.int .i64 ((rd_T43 l0 x8_1).f1))).trans hx190_2; replace hx190_3 := (cell_far (p := ⟨gb187, 1, none⟩) (by first | (rw [add_block]; exact hn190_1) | (show (Addr.add _ _).block ≠ _; rw [add_block]; exact hn190_1) | exact hn190_1) (.int .i64 ((rd_T43 l0 x8_1).f1))).trans hx190_3; replace hx190_0 := (cell_far (p := ⟨gb187, 2, none⟩) (by first | (rw [add_block]; exact hn190_2) | (show (Addr.add _ _).block ≠ _; rw [add_block]; exact hn190_2) | exact hn190_2) (.slice A186_2 ((rd_T43 l0 x8_1).f2).length c186_2)).trans hx190_0; replace hx190_1 := (cell_far (p := ⟨gb187, 2, none⟩) (by first | (rw [add_block]; exact hn190_2) | (show (Addr.add _ _).block ≠ _; rw [add_block]; exact hn190_2) | exact hn190_2) (.slice A186_2 ((rd_T43 l0 x8_1).f2).length c186_2)).trans hx190_1; replace hx190_2 := (cell_far (p := ⟨gb187, 2, none⟩) (by first | (rw [add_block]; exact hn190_2) | (show (Addr.add _ _).block ≠ _; rw [add_block]; exact hn190_2) | exact hn190_2) (.slice A186_2 ((rd_T43 l0 x8_1).f2).length c186_2)).trans hx190_2; replace hx190_3 := (cell_far (p := ⟨gb187, 2, none⟩) (by first | (rw [add_block]; exact hn190_2) | (show (Addr.add _ _).block ≠ _; rw [add_block]; exact hn190_2) | exact hn190_2) (.slice A186_2 ((rd_T43 l0 x8_1).f2).length c186_2)).trans hx190_3; replace hx190_0 := (cell_far (p := ⟨gb187, 3, none⟩) (by first | (rw [add_block]; exact hn190_3) | (show (Addr.add _ _).block ≠ _; rw [add_block]; exact hn190_3) | exact hn190_3) (.bool ((rd_T43 l0 x8_1).f3))).trans hx190_0; replace hx190_1 := (cell_far (p := ⟨gb187, 3, none⟩) (by first | (rw [add_block]; exact hn190_3) | (show (Addr.add _ _).block ≠ _; rw [add_block]; exact hn190_3) | exact hn190_3) (.bool ((rd_T43 l0 x8_1).f3))).trans hx190_1; replace hx190_2 := (cell_far (p := ⟨gb187, 3, none⟩) (by first | (rw [add_block]; exact hn190_3) | (show (Addr.add _ _).block ≠ _; rw [add_block]; exact hn190_3) | exact hn190_3) (.bool ((rd_T43 l0 x8_1).f3))).trans hx190_2; replace hx190_3 := (cell_far (p := ⟨gb187, 3, none⟩) (by first | (rw [add_block]; exact hn190_3) | (show (Addr.add _ _).block ≠ _; rw [add_block]; exact hn190_3) | exact hn190_3) (.bool ((rd_T43 l0 x8_1).f3))).trans hx190_3; (try have hy190_0 := fun (n_ : Nat) => (show ((((((w12.drewN n_).setCell ⟨gb187, 0, none⟩ (.int .i64 ((rd_T43 l0 x8_1).f0))).setCell ⟨gb187, 1, none⟩ (.int .i64 ((rd_T43 l0 x8_1).f1))).setCell ⟨gb187, 2, none⟩ (.slice A186_2 ((rd_T43 l0 x8_1).f2).length c186_2)).setCell ⟨gb187, 3, none⟩ (.bool ((rd_T43 l0 x8_1).f3)))).cell? _ = some _ from hx190_0)); (try have hy190_1 := fun (n_ : Nat) => (show ((((((w12.drewN n_).setCell ⟨gb187, 0, none⟩ (.int .i64 ((rd_T43 l0 x8_1).f0))).setCell ⟨gb187, 1, none⟩ (.int .i64 ((rd_T43 l0 x8_1).f1))).setCell ⟨gb187, 2, none⟩ (.slice A186_2 ((rd_T43 l0 x8_1).f2).length c186_2)).setCell ⟨gb187, 3, none⟩ (.bool ((rd_T43 l0 x8_1).f3)))).cell? _ = some _ from hx190_1)); (try have hy190_2 := fun (n_ : Nat) => (show ((((((w12.drewN n_).setCell ⟨gb187, 0, none⟩ (.int .i64 ((rd_T43 l0 x8_1).f0))).setCell ⟨gb187, 1, none⟩ (.int .i64 ((rd_T43 l0 x8_1).f1))).setCell ⟨gb187, 2, none⟩ (.slice A186_2 ((rd_T43 l0 x8_1).f2).length c186_2)).setCell ⟨gb187, 3, none⟩ (.bool ((rd_T43 l0 x8_1).f3)))).cell? _ = some _ from hx190_2)); (try have hy190_3 := fun (n_ : Nat) => (show ((((((w12.drewN n_).setCell ⟨gb187, 0, none⟩ (.int .i64 ((rd_T43 l0 x8_1).f0))).setCell ⟨gb187, 1, none⟩ (.int .i64 ((rd_T43 l0 x8_1).f1))).setCell ⟨gb187, 2, none⟩ (.slice A186_2 ((rd_T43 l0 x8_1).f2).length c186_2)).setCell ⟨gb187, 3, none⟩ (.bool ((rd_T43 l0 x8_1).f3)))).cell? _ = some _ from hx190_3)); clear hn190_0; clear hn190_1; clear hn190_2; clear hn190_3; replace p190 := eq_true p190; replace q190 := eq_true q190))
           first | (have hz_ := hy190_3; clear hz_) | (have p190 : 0 ≤ (0 : Int) := (by omega); have q190 : 0 < (l0.length : Int) := of_decide_eq_true (by first | (with_reducible assumption) | assumption); obtain ⟨ad190, A190_2, c190_2, e190, hx190_0, hx190_1, hx190_2, hx190_3, hl190_2, hi190_2⟩ := at_T43 HR0.out 0 p190 q190; obtain rfl : ad186 = ad190 := (by injection e190); have qi190 : (0 < l0.length) = True := eq_true (by omega); (try rw [show ((0 : Int)).toNat = 0 from rfl] at hx190_0); (try rw [show 0 * 4 = 0 from rfl] at hx190_0); (try rw [Addr.add_zero'] at hx190_0); (try rw [show ((0 : Int)).toNat = 0 from rfl] at hx190_1); (try rw [show 0 * 4 = 0 from rfl] at hx190_1); (try rw [Addr.add_zero'] at hx190_1); (try rw [show ((0 : Int)).toNat = 0 from rfl] at hx190_2); (try rw [show 0 * 4 = 0 from rfl] at hx190_2); (try rw [Addr.add_zero'] at hx190_2); (try rw [show ((0 : Int)).toNat = 0 from rfl] at hx190_3); (try rw [show 0 * 4 = 0 from rfl] at hx190_3); (try rw [Addr.add_zero'] at hx190_3); have hn190_0 : ad186.block ≠ gb187 := Nat.ne_of_lt (Nat.lt_of_lt_of_le (by have := blc _ _ hx190_0; first | rwa [add_block] at this | exact this) GW187.out); have hn190_1 : ad186.block ≠ gb187 := Nat.ne_of_lt (Nat.lt_of_lt_of_le (by have := blc _ _ hx190_0; first | rwa [add_block] at this | exact this) GW187.out); have hn190_2 : ad186.block ≠ gb187 := Nat.ne_of_lt (Nat.lt_of_lt_of_le (by have := blc _ _ hx190_0; first | rwa [add_block] at this | exact this) GW187.out); have hn190_3 : ad186.block ≠ gb187 := Nat.ne_of_lt (Nat.lt_of_lt_of_le (by have := blc _ _ hx190_0; first | rwa [add_block] at this | exact this) GW187.out); replace hx190_0 := (HB.out.cell (blc w _ hx190_0)).trans hx190_0; replace hx190_1 := (HB.out.cell (blc w _ hx190_1)).trans hx190_1; replace hx190_2 := (HB.out.cell (blc w _ hx190_2)).trans hx190_2; replace hx190_3 := (HB.out.cell (blc w _ hx190_3)).trans hx190_3; have HR190_2 := am hi190_2; have HC190_2 := am hl190_2; clear hi190_2 hl190_2; replace hx190_0 := (cell_far (p := ⟨gb187, 0, none⟩) (by first | (rw [add_block]; exact hn190_0) | (show (Addr.add _ _).block ≠ _; rw [add_block]; exact hn190_0) | exact hn190_0) (.int .i64 ((rd_T43 l0 x8_1).f0))).trans hx190_0; replace hx190_1 := (cell_far (p := ⟨gb187, 0, none⟩) (by first | (rw [add_block]; exact hn190_0) | (show (Addr.add _ _).block ≠ _; rw [add_block]; exact hn190_0) | exact hn190_0) (.int .i64 ((rd_T43 l0 x8_1).f0))).trans hx190_1; replace hx190_2 := (cell_far (p := ⟨gb187, 0, none⟩) (by first | (rw [add_block]; exact hn190_0) | (show (Addr.add _ _).block ≠ _; rw [add_block]; exact hn190_0) | exact hn190_0) (.int .i64 ((rd_T43 l0 x8_1).f0))).trans hx190_2; replace hx190_3 := (cell_far (p := ⟨gb187, 0, none⟩) (by first | (rw [add_block]; exact hn190_0) | (show (Addr.add _ _).block ≠ _; rw [add_block]; exact hn190_0) | exact hn190_0) (.int .i64 ((rd_T43 l0 x8_1).f0))).trans hx190_3; replace hx190_0 := (cell_far (p := ⟨gb187, 1, none⟩) (by first | (rw [add_block]; exact hn190_1) | (show (Addr.add _ _).block ≠ _; rw [add_block]; exact hn190_1) | exact hn190_1) (.int .i64 ((rd_T43 l0 x8_1).f1))).trans hx190_0; replace hx190_1 := (cell_far (p := ⟨gb187, 1, none⟩) (by first | (rw [add_block]; exact hn190_1) | (show (Addr.add _ _).block ≠ _; rw [add_block]; exact hn190_1) | exact hn190_1) (.int .i64 ((rd_T43 l0 x8_1).f1))).trans hx190_1; replace hx190_2 := (cell_far (p := ⟨gb187, 1, none⟩) (by first | (rw [add_block]; exact hn190_1) | (show (Addr.add _ _).block ≠ _; rw [add_block]; exact hn190_1) | exact hn190_1) (.int .i64 ((rd_T43 l0 x8_1).f1))).trans hx190_2; replace hx190_3 := (cell_far (p := ⟨gb187, 1, none⟩) (by first | (rw [add_block]; exact hn190_1) | (show (Addr.add _ _).block ≠ _; rw [add_block]; exact hn190_1) | exact hn190_1) (.int .i64 ((rd_T43 l0 x8_1).f1))).trans hx190_3; replace hx190_0 := (cell_far (p := ⟨gb187, 2, none⟩) (by first | (rw [add_block]; exact hn190_2) | (show (Addr.add _ _).block ≠ _; rw [add_block]; exact hn190_2) | exact hn190_2) (.slice A186_2 ((rd_T43 l0 x8_1).f2).length c186_2)).trans hx190_0; replace hx190_1 := (cell_far (p := ⟨gb187, 2, none⟩) (by first | (rw [add_block]; exact hn190_2) | (show (Addr.add _ _).block ≠ _; rw [add_block]; exact hn190_2) | exact hn190_2) (.slice A186_2 ((rd_T43 l0 x8_1).f2).length c186_2)).trans hx190_1; replace hx190_2 := (cell_far (p := ⟨gb187, 2, none⟩) (by first | (rw [add_block]; exact hn190_2) | (show (Addr.add _ _).block ≠ _; rw [add_block]; exact hn190_2) | exact hn190_2) (.slice A186_2 ((rd_T43 l0 x8_1).f2).length c186_2)).trans hx190_2; replace hx190_3 := (cell_far (p := ⟨gb187, 2, none⟩) (by first | (rw [add_block]; exact hn190_2) | (show (Addr.add _ _).block ≠ _; rw [add_block]; exact hn190_2) | exact hn190_2) (.slice A186_2 ((rd_T43 l0 x8_1).f2).length c186_2)).trans hx190_3; replace hx190_0 := (cell_far (p := ⟨gb187, 3, none⟩) (by first | (rw [add_block]; exact hn190_3) | (show (Addr.add _ _).block ≠ _; rw [add_block]; exact hn190_3) | exact hn190_3) (.bool ((rd_T43 l0 x8_1).f3))).trans hx190_0; replace hx190_1 := (cell_far (p := ⟨gb187, 3, none⟩) (by first | (rw [add_block]; exact hn190_3) | (show (Addr.add _ _).block ≠ _; rw [add_block]; exact hn190_3) | exact hn190_3) (.bool ((rd_T43 l0 x8_1).f3))).trans hx190_1; replace hx190_2 := (cell_far (p := ⟨gb187, 3, none⟩) (by first | (rw [add_block]; exact hn190_3) | (show (Addr.add _ _).block ≠ _; rw [add_block]; exact hn190_3) | exact hn190_3) (.bool ((rd_T43 l0 x8_1).f3))).trans hx190_2; replace hx190_3 := (cell_far (p := ⟨gb187, 3, none⟩) (by first | (rw [add_block]; exact hn190_3) | (show (Addr.add _ _).block ≠ _; rw [add_block]; exact hn190_3) | exact hn190_3) (.bool ((rd_T43 l0 x8_1).f3))).trans hx190_3; (try have hy190_0 := fun (n_ : Nat) => (show ((((((w12.drewN n_).setCell ⟨gb187, 0, none⟩ (.int .i64 ((rd_T43 l0 x8_1).f0))).setCell ⟨gb187, 1, none⟩ (.int .i64 ((rd_T43 l0 x8_1).f1))).setCell ⟨gb187, 2, none⟩ (.slice A186_2 ((rd_T43 l0 x8_1).f2).length c186_2)).setCell ⟨gb187, 3, none⟩ (.bool ((rd_T43 l0 x8_1).f3)))).cell? _ = some _ from hx190_0)); (try have hy190_1 := fun (n_ : Nat) => (show ((((((w12.drewN n_).setCell ⟨gb187, 0, none⟩ (.int .i64 ((rd_T43 l0 x8_1).f0))).setCell ⟨gb187, 1, none⟩ (.int .i64 ((rd_T43 l0 x8_1).f1))).setCell ⟨gb187, 2, none⟩ (.slice A186_2 ((rd_T43 l0 x8_1).f2).length c186_2)).setCell ⟨gb187, 3, none⟩ (.bool ((rd_T43 l0 x8_1).f3)))).cell? _ = some _ from hx190_1)); (try have hy190_2 := fun (n_ : Nat) => (show ((((((w12.drewN n_).setCell ⟨gb187, 0, none⟩ (.int .i64 ((rd_T43 l0 x8_1).f0))).setCell ⟨gb187, 1, none⟩ (.int .i64 ((rd_T43 l0 x8_1).f1))).setCell ⟨gb187, 2, none⟩ (.slice A186_2 ((rd_T43 l0 x8_1).f2).length c186_2)).setCell ⟨gb187, 3, none⟩ (.bool ((rd_T43 l0 x8_1).f3)))).cell? _ = some _ from hx190_2)); (try have hy190_3 := fun (n_ : Nat) => (show ((((((w12.drewN n_).setCell ⟨gb187, 0, none⟩ (.int .i64 ((rd_T43 l0 x8_1).f0))).setCell ⟨gb187, 1, none⟩ (.int .i64 ((rd_T43 l0 x8_1).f1))).setCell ⟨gb187, 2, none⟩ (.slice A186_2 ((rd_T43 l0 x8_1).f2).length c186_2)).setCell ⟨gb187, 3, none⟩ (.bool ((rd_T43 l0 x8_1).f3)))).cell? _ = some _ from hx190_3)); clear hn190_0; clear hn190_1; clear hn190_2; clear hn190_3; replace p190 := eq_true p190; replace q190 := eq_true q190) | skip
           repeat (go_quiet (first | ((with_reducible refine gate_dst (N := 5) rfl ?_); (try (refine gate_guard (by rfl) ?_; dsimp only)); refine box_event ?hg (N := 5) ?hd (cs := #[.int .i64 0, .int .i64 0, .slice none 0 0, .bool false]) (t := 43) ?hr ?_; (case hd => rfl); (case hg => rfl); (case hr => first | (go_simp; done) | (go_simp; rfl)); intro gb187 hg w12 hbox hb; have n0_ := am (below_step (by repeat (first | (with_reducible first | exact HB.out | apply bal | apply pdn | apply bd1) | exact HB.out)) hb); have n1_ := am (hbox); have n2_ := am ((by rw [hg]; exact (below_size (by repeat (first | (with_reducible first | exact HB.out | apply bal | apply pdn | apply bd1) | exact HB.out))) : w.heap.size ≤ gb187)); have n3_ := am ((by rw [hg]; exact (below_size (by repeat (first | (with_reducible first | exact HB.out | apply bal | apply pdn | apply bd1) | exact HB.out))) : w.heap.size ≤ gb187)); clear HB; have HB := n0_; have BK187 := n1_; have GW187 := n2_; have GE187 := n3_; clear n0_ n1_ n2_ n3_; clear hb hbox hg; have hcz13_0 : w12.cell? ⟨gb187, 0, none⟩ = some (.int .i64 0) := (kce BK187.out 0).trans rfl; have hcz13_1 : w12.cell? ⟨gb187, 1, none⟩ = some (.int .i64 0) := (kce BK187.out 1).trans rfl; have hcz13_2 : w12.cell? ⟨gb187, 2, none⟩ = some (.slice none 0 0) := (kce BK187.out 2).trans rfl; have hcz13_3 : w12.cell? ⟨gb187, 3, none⟩ = some (.bool false) := (kce BK187.out 3).trans rfl; have hfz13_0 := kfr BK187.out 0; have hfz13_1 := kfr BK187.out 1; have hfz13_2 := kfr BK187.out 2; have hfz13_3 := kfr BK187.out 3) | (go_at_call 47; (with_reducible refine (impl_between.calls ((rd_T43 l0 x8_1).f1) ((rd_T43 l0 x8_1).f0) 60 true _ A6.out).mono ?_); rintro e w' ⟨rfl, ⟨nd, rfl⟩⟩; (try first | exact ⟨rfl, _, World.drewN_drewN _ _ _⟩ | exact ⟨rfl, _, Eq.trans (World.drewN_drewN _ _ _) (congrArg (World.drewN _) (Nat.add_assoc _ _ _))⟩)) | (go_at_call 15; (with_reducible refine (impl_ActingOk.calls k1 _ _ ((rd_T43 l0 x8_1).f2) true _ ?side1 ?side2 A8.out).mono ?_); (case side1 => exact Kd.C_below HR186_2.out (by repeat (first | (with_reducible first | exact HB.out | apply bal | apply pdn | apply bd1 | refine bst ?_ GE187.out) | exact HB.out))); (case side2 => exact HC186_2.out); rintro e w' ⟨rfl, ⟨nd, rfl⟩⟩; (try first | exact ⟨rfl, _, World.drewN_drewN _ _ _⟩ | exact ⟨rfl, _, Eq.trans (World.drewN_drewN _ _ _) (congrArg (World.drewN _) (Nat.add_assoc _ _ _))⟩))); try go_wp2_with (first | ((with_reducible refine gate_dst (N := 5) rfl ?_); (try (refine gate_guard (by rfl) ?_; dsimp only)); refine box_event ?hg (N := 5) ?hd (cs := #[.int .i64 0, .int .i64 0, .slice none 0 0, .bool false]) (t := 43) ?hr ?_; (case hd => rfl); (case hg => rfl); (case hr => first | (go_simp; done) | (go_simp; rfl)); intro gb187 hg w12 hbox hb; have n0_ := am (below_step (by repeat (first | (with_reducible first | exact HB.out | apply bal | apply pdn | apply bd1) | exact HB.out)) hb); have n1_ := am (hbox); have n2_ := am ((by rw [hg]; exact (below_size (by repeat (first | (with_reducible first | exact HB.out | apply bal | apply pdn | apply bd1) | exact HB.out))) : w.heap.size ≤ gb187)); have n3_ := am ((by rw [hg]; exact (below_size (by repeat (first | (with_reducible first | exact HB.out | apply bal | apply pdn | apply bd1) | exact HB.out))) : w.heap.size ≤ gb187)); clear HB; have HB := n0_; have BK187 := n1_; have GW187 := n2_; have GE187 := n3_; clear n0_ n1_ n2_ n3_; clear hb hbox hg; have hcz13_0 : w12.cell? ⟨gb187, 0, none⟩ = some (.int .i64 0) := (kce BK187.out 0).trans rfl; have hcz13_1 : w12.cell? ⟨gb187, 1, none⟩ = some (.int .i64 0) := (kce BK187.out 1).trans rfl; have hcz13_2 : w12.cell? ⟨gb187, 2, none⟩ = some (.slice none 0 0) := (kce BK187.out 2).trans rfl; have hcz13_3 : w12.cell? ⟨gb187, 3, none⟩ = some (.bool false) := (kce BK187.out 3).trans rfl; have hfz13_0 := kfr BK187.out 0; have hfz13_1 := kfr BK187.out 1; have hfz13_2 := kfr BK187.out 2; have hfz13_3 := kfr BK187.out 3) | (go_at_call 47; (with_reducible refine (impl_between.calls ((rd_T43 l0 x8_1).f1) ((rd_T43 l0 x8_1).f0) 60 true _ A6.out).mono ?_); rintro e w' ⟨rfl, ⟨nd, rfl⟩⟩; (try first | exact ⟨rfl, _, World.drewN_drewN _ _ _⟩ | exact ⟨rfl, _, Eq.trans (World.drewN_drewN _ _ _) (congrArg (World.drewN _) (Nat.add_assoc _ _ _))⟩)) | (go_at_call 15; (with_reducible refine (impl_ActingOk.calls k1 _ _ ((rd_T43 l0 x8_1).f2) true _ ?side1 ?side2 A8.out).mono ?_); (case side1 => exact Kd.C_below HR186_2.out (by repeat (first | (with_reducible first | exact HB.out | apply bal | apply pdn | apply bd1 | refine bst ?_ GE187.out) | exact HB.out))); (case side2 => exact HC186_2.out); rintro e w' ⟨rfl, ⟨nd, rfl⟩⟩; (try first | exact ⟨rfl, _, World.drewN_drewN _ _ _⟩ | exact ⟨rfl, _, Eq.trans (World.drewN_drewN _ _ _) (congrArg (World.drewN _) (Nat.add_assoc _ _ _))⟩); have p190 : 0 ≤ (0 : Int) := (by omega); have q190 : 0 < (l0.length : Int) := of_decide_eq_true (by first | (with_reducible assumption) | assumption); obtain ⟨ad190, A190_2, c190_2, e190, hx190_0, hx190_1, hx190_2, hx190_3, hl190_2, hi190_2⟩ := at_T43 HR0.out 0 p190 q190; obtain rfl : ad186 = ad190 := (by injection e190); have qi190 : (0 < l0.length) = True := eq_true (by omega); (try rw [show ((0 : Int)).toNat = 0 from rfl] at hx190_0); (try rw [show 0 * 4 = 0 from rfl] at hx190_0); (try rw [Addr.add_zero'] at hx190_0); (try rw [show ((0 : Int)).toNat = 0 from rfl] at hx190_1); (try rw [show 0 * 4 = 0 from rfl] at hx190_1); (try rw [Addr.add_zero'] at hx190_1); (try rw [show ((0 : Int)).toNat = 0 from rfl] at hx190_2); (try rw [show 0 * 4 = 0 from rfl] at hx190_2); (try rw [Addr.add_zero'] at hx190_2); (try rw [show ((0 : Int)).toNat = 0 from rfl] at hx190_3); (try rw [show 0 * 4 = 0 from rfl] at hx190_3); (try rw [Addr.add_zero'] at hx190_3); have hn190_0 : ad186.block ≠ gb187 := Nat.ne_of_lt (Nat.lt_of_lt_of_le (by have := blc _ _ hx190_0; first | rwa [add_block] at this | exact this) GW187.out); have hn190_1 : ad186.block ≠ gb187 := Nat.ne_of_lt (Nat.lt_of_lt_of_le (by have := blc _ _ hx190_0; first | rwa [add_block] at this | exact this) GW187.out); have hn190_2 : ad186.block ≠ gb187 := Nat.ne_of_lt (Nat.lt_of_lt_of_le (by have := blc _ _ hx190_0; first | rwa [add_block] at this | exact this) GW187.out); have hn190_3 : ad186.block ≠ gb187 := Nat.ne_of_lt (Nat.lt_of_lt_of_le (by have := blc _ _ hx190_0; first | rwa [add_block] at this | exact this) GW187.out); replace hx190_0 := (HB.out.cell (blc w _ hx190_0)).trans hx190_0; replace hx190_1 := (HB.out.cell (blc w _ hx190_1)).trans hx190_1; replace hx190_2 := (HB.out.cell (blc w _ hx190_2)).trans hx190_2; replace hx190_3 := (HB.out.cell (blc w _ hx190_3)).trans hx190_3; have HR190_2 := am hi190_2; have HC190_2 := am hl190_2; clear hi190_2 hl190_2; replace hx190_0 := (cell_far (p := ⟨gb187, 0, none⟩) (by first | (rw [add_block]; exact hn190_0) | (show (Addr.add _ _).block ≠ _; rw [add_block]; exact hn190_0) | exact hn190_0) (.int .i64 ((rd_T43 l0 x8_1).f0))).trans hx190_0; replace hx190_1 := (cell_far (p := ⟨gb187, 0, none⟩) (by first | (rw [add_block]; exact hn190_0) | (show (Addr.add _ _).block ≠ _; rw [add_block]; exact hn190_0) | exact hn190_0) (.int .i64 ((rd_T43 l0 x8_1).f0))).trans hx190_1; replace hx190_2 := (cell_far (p := ⟨gb187, 0, none⟩) (by first | (rw [add_block]; exact hn190_0) | (show (Addr.add _ _).block ≠ _; rw [add_block]; exact hn190_0) | exact hn190_0) (.int .i64 ((rd_T43 l0 x8_1).f0))).trans hx190_2; replace hx190_3 := (cell_far (p := ⟨gb187, 0, none⟩) (by first | (rw [add_block]; exact hn190_0) | (show (Addr.add _ _).block ≠ _; rw [add_block]; exact hn190_0) | exact hn190_0) (.int .i64 ((rd_T43 l0 x8_1).f0))).trans hx190_3; replace hx190_0 := (cell_far (p := ⟨gb187, 1, none⟩) (by first | (rw [add_block]; exact hn190_1) | (show (Addr.add _ _).block ≠ _; rw [add_block]; exact hn190_1) | exact hn190_1) (.int .i64 ((rd_T43 l0 x8_1).f1))).trans hx190_0; replace hx190_1 := (cell_far (p := ⟨gb187, 1, none⟩) (by first | (rw [add_block]; exact hn190_1) | (show (Addr.add _ _).block ≠ _; rw [add_block]; exact hn190_1) | exact hn190_1) (.int .i64 ((rd_T43 l0 x8_1).f1))).trans hx190_1; replace hx190_2 := (cell_far (p := ⟨gb187, 1, none⟩) (by first | (rw [add_block]; exact hn190_1) | (show (Addr.add _ _).block ≠ _; rw [add_block]; exact hn190_1) | exact hn190_1) (.int .i64 ((rd_T43 l0 x8_1).f1))).trans hx190_2; replace hx190_3 := (cell_far (p := ⟨gb187, 1, none⟩) (by first | (rw [add_block]; exact hn190_1) | (show (Addr.add _ _).block ≠ _; rw [add_block]; exact hn190_1) | exact hn190_1) (.int .i64 ((rd_T43 l0 x8_1).f1))).trans hx190_3; replace hx190_0 := (cell_far (p := ⟨gb187, 2, none⟩) (by first | (rw [add_block]; exact hn190_2) | (show (Addr.add _ _).block ≠ _; rw [add_block]; exact hn190_2) | exact hn190_2) (.slice A186_2 ((rd_T43 l0 x8_1).f2).length c186_2)).trans hx190_0; replace hx190_1 := (cell_far (p := ⟨gb187, 2, none⟩) (by first | (rw [add_block]; exact hn190_2) | (show (Addr.add _ _).block ≠ _; rw [add_block]; exact hn190_2) | exact hn190_2) (.slice A186_2 ((rd_T43 l0 x8_1).f2).length c186_2)).trans hx190_1; replace hx190_2 := (cell_far (p := ⟨gb187, 2, none⟩) (by first | (rw [add_block]; exact hn190_2) | (show (Addr.add _ _).block ≠ _; rw [add_block]; exact hn190_2) | exact hn190_2) (.slice A186_2 ((rd_T43 l0 x8_1).f2).length c186_2)).trans hx190_2; replace hx190_3 := (cell_far (p := ⟨gb187, 2, none⟩) (by first | (rw [add_block]; exact hn190_2) | (show (Addr.add _ _).block ≠ _; rw [add_block]; exact hn190_2) | exact hn190_2) (.slice A186_2 ((rd_T43 l0 x8_1).f2).length c186_2)).trans hx190_3; replace hx190_0 := (cell_far (p := ⟨gb187, 3, none⟩) (by first | (rw [add_block]; exact hn190_3) | (show (Addr.add _ _).block ≠ _; rw [add_block]; exact hn190_3) | exact hn190_3) (.bool ((rd_T43 l0 x8_1).f3))).trans hx190_0; replace hx190_1 := (cell_far (p := ⟨gb187, 3, none⟩) (by first | (rw [add_block]; exact hn190_3) | (show (Addr.add _ _).block ≠ _; rw [add_block]; exact hn190_3) | exact hn190_3) (.bool ((rd_T43 l0 x8_1).f3))).trans hx190_1; replace hx190_2 := (cell_far (p := ⟨gb187, 3, none⟩) (by first | (rw [add_block]; exact hn190_3) | (show (Addr.add _ _).block ≠ _; rw [add_block]; exact hn190_3) | exact hn190_3) (.bool ((rd_T43 l0 x8_1).f3))).trans hx190_2; replace hx190_3 := (cell_far (p := ⟨gb187, 3, none⟩) (by first | (rw [add_block]; exact hn190_3) | (show (Addr.add _ _).block ≠ _; rw [add_block]; exact hn190_3) | exact hn190_3) (.bool ((rd_T43 l0 x8_1).f3))).trans hx190_3; (try have hy190_0 := fun (n_ : Nat) => (show ((((((w12.drewN n_).setCell ⟨gb187, 0, none⟩ (.int .i64 ((rd_T43 l0 x8_1).f0))).setCell ⟨gb187, 1, none⟩ (.int .i64 ((rd_T43 l0 x8_1).f1))).setCell ⟨gb187, 2, none⟩ (.slice A186_2 ((rd_T43 l0 x8_1).f2).length c186_2)).setCell ⟨gb187, 3, none⟩ (.bool ((rd_T43 l0 x8_1).f3)))).cell? _ = some _ from hx190_0)); (try have hy190_1 := fun (n_ : Nat) => (show ((((((w12.drewN n_).setCell ⟨gb187, 0, none⟩ (.int .i64 ((rd_T43 l0 x8_1).f0))).setCell ⟨gb187, 1, none⟩ (.int .i64 ((rd_T43 l0 x8_1).f1))).setCell ⟨gb187, 2, none⟩ (.slice A186_2 ((rd_T43 l0 x8_1).f2).length c186_2)).setCell ⟨gb187, 3, none⟩ (.bool ((rd_T43 l0 x8_1).f3)))).cell? _ = some _ from hx190_1)); (try have hy190_2 := fun (n_ : Nat) => (show ((((((w12.drewN n_).setCell ⟨gb187, 0, none⟩ (.int .i64 ((rd_T43 l0 x8_1).f0))).setCell ⟨gb187, 1, none⟩ (.int .i64 ((rd_T43 l0 x8_1).f1))).setCell ⟨gb187, 2, none⟩ (.slice A186_2 ((rd_T43 l0 x8_1).f2).length c186_2)).setCell ⟨gb187, 3, none⟩ (.bool ((rd_T43 l0 x8_1).f3)))).cell? _ = some _ from hx190_2)); (try have hy190_3 := fun (n_ : Nat) => (show ((((((w12.drewN n_).setCell ⟨gb187, 0, none⟩ (.int .i64 ((rd_T43 l0 x8_1).f0))).setCell ⟨gb187, 1, none⟩ (.int .i64 ((rd_T43 l0 x8_1).f1))).setCell ⟨gb187, 2, none⟩ (.slice A186_2 ((rd_T43 l0 x8_1).f2).length c186_2)).setCell ⟨gb187, 3, none⟩ (.bool ((rd_T43 l0 x8_1).f3)))).cell? _ = some _ from hx190_3)); clear hn190_0; clear hn190_1; clear hn190_2; clear hn190_3; replace p190 := eq_true p190; replace q190 := eq_true q190)))
           go_roundg k1
           case measure => have := HK1.out; omega
           case rel => exact ⟨(wrap64 (((rd_T43 l0 x8_1).f1) + 1)), (wrap64 (x8_1 + 1)), (by first | rfl | (simp; done) | (simp [*]; done)), (by first | rfl | (simp; done) | (simp [*]; done)), H', ⟨by have := HK1.out; omega⟩, ⟨by repeat (first | (with_reducible first | exact HB.out | apply bal | apply pdn | apply bd1 | refine bst ?_ GE187.out) | exact HB.out)⟩⟩
          ·rw [if_neg c11] at H
           have c11b0 : ((((rd_T43 l0 x8_1).f2).length : Int) == (((rd_T43 l0 0).f2).length : Int)) = false := beq_eq_false_iff_ne.mpr c11
           have c11b1 : ((((rd_T43 l0 x8_1).f2).length : Int) != (((rd_T43 l0 0).f2).length : Int)) = true := bne_iff_ne.mpr c11
           have c11b2 : (((rd_T43 l0 x8_1).f2).length == ((rd_T43 l0 0).f2).length) = false := by first | simpa using c11 | (simp at c11 ⊢; omega)
           obtain rfl := Option.some.inj H
           have p186 : 0 ≤ (x8_1 : Int) := of_decide_eq_true (by first | (with_reducible assumption) | assumption)
           have q186 : x8_1 < (l0.length : Int) := of_decide_eq_true (by first | (with_reducible assumption) | assumption)
           obtain ⟨ad186, A186_2, c186_2, e186, hx186_0, hx186_1, hx186_2, hx186_3, hl186_2, hi186_2⟩ := at_T43 HR0.out x8_1 p186 q186
           cases e186
           replace hx186_0 := (HB.out.cell (blc w _ hx186_0)).trans hx186_0
           replace hx186_1 := (HB.out.cell (blc w _ hx186_1)).trans hx186_1
           replace hx186_2 := (HB.out.cell (blc w _ hx186_2)).trans hx186_2
           replace hx186_3 := (HB.out.cell (blc w _ hx186_3)).trans hx186_3
           have HR186_2 := am hi186_2
           have HC186_2 := am hl186_2
           clear hi186_2 hl186_2
           replace p186 := eq_true p186
           replace q186 := eq_true q186
           try (have p190 : 0 ≤ (0 : Int) := (by omega); have q190 : 0 < (l0.length : Int) := of_decide_eq_true (by first | (with_reducible assumption) | assumption); obtain ⟨ad190, A190_2, c190_2, e190, hx190_0, hx190_1, hx190_2, hx190_3, hl190_2, hi190_2⟩ := at_T43 HR0.out 0 p190 q190; obtain rfl : ad186 = ad190 := (by injection e190); have qi190 : (0 < l0.length) = True := eq_true (by omega); (try rw [show ((0 : Int)).toNat = 0 from rfl] at hx190_0); (try rw [show 0 * 4 = 0 from rfl] at hx190_0); (try rw [Addr.add_zero'] at hx190_0); (try rw [show ((0 : Int)).toNat = 0 from rfl] at hx190_1); (try rw [show 0 * 4 = 0 from rfl] at hx190_1); (try rw [Addr.add_zero'] at hx190_1); (try rw [show ((0 : Int)).toNat = 0 from rfl] at hx190_2); (try rw [show 0 * 4 = 0 from rfl] at hx190_2); (try rw [Addr.add_zero'] at hx190_2); (try rw [show ((0 : Int)).toNat = 0 from rfl] at hx190_3); (try rw [show 0 * 4 = 0 from rfl] at hx190_3); (try rw [Addr.add_zero'] at hx190_3); have hn190_0 : ad186.block ≠ gb187 := Nat.ne_of_lt (Nat.lt_of_lt_of_le (by have := blc _ _ hx190_0; first | rwa [add_block] at this | exact this) GW187.out); have hn190_1 : ad186.block ≠ gb187 := Nat.ne_of_lt (Nat.lt_of_lt_of_le (by have := blc _ _ hx190_0; first | rwa [add_block] at this | exact this) GW187.out); have hn190_2 : ad186.block ≠ gb187 := Nat.ne_of_lt (Nat.lt_of_lt_of_le (by have := blc _ _ hx190_0; first | rwa [add_block] at this | exact this) GW187.out); have hn190_3 : ad186.block ≠ gb187 := Nat.ne_of_lt (Nat.lt_of_lt_of_le (by have := blc _ _ hx190_0; first | rwa [add_block] at this | exact this) GW187.out); replace hx190_0 := (HB.out.cell (blc w _ hx190_0)).trans hx190_0; replace hx190_1 := (HB.out.cell (blc w _ hx190_1)).trans hx190_1; replace hx190_2 := (HB.out.cell (blc w _ hx190_2)).trans hx190_2; replace hx190_3 := (HB.out.cell (blc w _ hx190_3)).trans hx190_3; have HR190_2 := am hi190_2; have HC190_2 := am hl190_2; clear hi190_2 hl190_2; replace hx190_0 := (cell_far (p := ⟨gb187, 0, none⟩) (by first | (rw [add_block]; exact hn190_0) | (show (Addr.add _ _).block ≠ _; rw [add_block]; exact hn190_0) | exact hn190_0) (.int .i64 ((rd_T43 l0 x8_1).f0))).trans hx190_0; replace hx190_1 := (cell_far (p := ⟨gb187, 0, none⟩) (by first | (rw [add_block]; exact hn190_0) | (show (Addr.add _ _).block ≠ _; rw [add_block]; exact hn190_0) | exact hn190_0) (.int .i64 ((rd_T43 l0 x8_1).f0))).trans hx190_1; replace hx190_2 := (cell_far (p := ⟨gb187, 0, none⟩) (by first | (rw [add_block]; exact hn190_0) | (show (Addr.add _ _).block ≠ _; rw [add_block]; exact hn190_0) | exact hn190_0) (.int .i64 ((rd_T43 l0 x8_1).f0))).trans hx190_2; replace hx190_3 := (cell_far (p := ⟨gb187, 0, none⟩) (by first | (rw [add_block]; exact hn190_0) | (show (Addr.add _ _).block ≠ _; rw [add_block]; exact hn190_0) | exact hn190_0) (.int .i64 ((rd_T43 l0 x8_1).f0))).trans hx190_3; replace hx190_0 := (cell_far (p := ⟨gb187, 1, none⟩) (by first | (rw [add_block]; exact hn190_1) | (show (Addr.add _ _).block ≠ _; rw [add_block]; exact hn190_1) | exact hn190_1) (.int .i64 ((rd_T43 l0 x8_1).f1))).trans hx190_0; replace hx190_1 := (cell_far (p := ⟨gb187, 1, none⟩) (by first | (rw [add_block]; exact hn190_1) | (show (Addr.add _ _).block ≠ _; rw [add_block]; exact hn190_1) | exact hn190_1) (.int .i64 ((rd_T43 l0 x8_1).f1))).trans hx190_1; replace hx190_2 := (cell_far (p := ⟨gb187, 1, none⟩) (by first | (rw [add_block]; exact hn190_1) | (show (Addr.add _ _).block ≠ _; rw [add_block]; exact hn190_1) | exact hn190_1) (.int .i64 ((rd_T43 l0 x8_1).f1))).trans hx190_2; replace hx190_3 := (cell_far (p := ⟨gb187, 1, none⟩) (by first | (rw [add_block]; exact hn190_1) | (show (Addr.add _ _).block ≠ _; rw [add_block]; exact hn190_1) | exact hn190_1) (.int .i64 ((rd_T43 l0 x8_1).f1))).trans hx190_3; replace hx190_0 := (cell_far (p := ⟨gb187, 2, none⟩) (by first | (rw [add_block]; exact hn190_2) | (show (Addr.add _ _).block ≠ _; rw [add_block]; exact hn190_2) | exact hn190_2) (.slice A186_2 ((rd_T43 l0 x8_1).f2).length c186_2)).trans hx190_0; replace hx190_1 := (cell_far (p := ⟨gb187, 2, none⟩) (by first | (rw [add_block]; exact hn190_2) | (show (Addr.add _ _).block ≠ _; rw [add_block]; exact hn190_2) | exact hn190_2) (.slice A186_2 ((rd_T43 l0 x8_1).f2).length c186_2)).trans hx190_1; replace hx190_2 := (cell_far (p := ⟨gb187, 2, none⟩) (by first | (rw [add_block]; exact hn190_2) | (show (Addr.add _ _).block ≠ _; rw [add_block]; exact hn190_2) | exact hn190_2) (.slice A186_2 ((rd_T43 l0 x8_1).f2).length c186_2)).trans hx190_2; replace hx190_3 := (cell_far (p := ⟨gb187, 2, none⟩) (by first | (rw [add_block]; exact hn190_2) | (show (Addr.add _ _).block ≠ _; rw [add_block]; exact hn190_2) | exact hn190_2) (.slice A186_2 ((rd_T43 l0 x8_1).f2).length c186_2)).trans hx190_3; replace hx190_0 := (cell_far (p := ⟨gb187, 3, none⟩) (by first | (rw [add_block]; exact hn190_3) | (show (Addr.add _ _).block ≠ _; rw [add_block]; exact hn190_3) | exact hn190_3) (.bool ((rd_T43 l0 x8_1).f3))).trans hx190_0; replace hx190_1 := (cell_far (p := ⟨gb187, 3, none⟩) (by first | (rw [add_block]; exact hn190_3) | (show (Addr.add _ _).block ≠ _; rw [add_block]; exact hn190_3) | exact hn190_3) (.bool ((rd_T43 l0 x8_1).f3))).trans hx190_1; replace hx190_2 := (cell_far (p := ⟨gb187, 3, none⟩) (by first | (rw [add_block]; exact hn190_3) | (show (Addr.add _ _).block ≠ _; rw [add_block]; exact hn190_3) | exact hn190_3) (.bool ((rd_T43 l0 x8_1).f3))).trans hx190_2; replace hx190_3 := (cell_far (p := ⟨gb187, 3, none⟩) (by first | (rw [add_block]; exact hn190_3) | (show (Addr.add _ _).block ≠ _; rw [add_block]; exact hn190_3) | exact hn190_3) (.bool ((rd_T43 l0 x8_1).f3))).trans hx190_3; (try have hy190_0 := fun (n_ : Nat) => (show ((((((w14.drewN n_).setCell ⟨gb187, 0, none⟩ (.int .i64 ((rd_T43 l0 x8_1).f0))).setCell ⟨gb187, 1, none⟩ (.int .i64 ((rd_T43 l0 x8_1).f1))).setCell ⟨gb187, 2, none⟩ (.slice A186_2 ((rd_T43 l0 x8_1).f2).length c186_2)).setCell ⟨gb187, 3, none⟩ (.bool ((rd_T43 l0 x8_1).f3)))).cell? _ = some _ from hx190_0)); (try have hy190_1 := fun (n_ : Nat) => (show ((((((w14.drewN n_).setCell ⟨gb187, 0, none⟩ (.int .i64 ((rd_T43 l0 x8_1).f0))).setCell ⟨gb187, 1, none⟩ (.int .i64 ((rd_T43 l0 x8_1).f1))).setCell ⟨gb187, 2, none⟩ (.slice A186_2 ((rd_T43 l0 x8_1).f2).length c186_2)).setCell ⟨gb187, 3, none⟩ (.bool ((rd_T43 l0 x8_1).f3)))).cell? _ = some _ from hx190_1)); (try have hy190_2 := fun (n_ : Nat) => (show ((((((w14.drewN n_).setCell ⟨gb187, 0, none⟩ (.int .i64 ((rd_T43 l0 x8_1).f0))).setCell ⟨gb187, 1, none⟩ (.int .i64 ((rd_T43 l0 x8_1).f1))).setCell ⟨gb187, 2, none⟩ (.slice A186_2 ((rd_T43 l0 x8_1).f2).length c186_2)).setCell ⟨gb187, 3, none⟩ (.bool ((rd_T43 l0 x8_1).f3)))).cell? _ = some _ from hx190_2)); (try have hy190_3 := fun (n_ : Nat) => (show ((((((w14.drewN n_).setCell ⟨gb187, 0, none⟩ (.int .i64 ((rd_T43 l0 x8_1).f0))).setCell ⟨gb187, 1, none⟩ (.int .i64 ((rd_T43 l0 x8_1).f1))).setCell ⟨gb187, 2, none⟩ (.slice A186_2 ((rd_T43 l0 x8_1).f2).length c186_2)).setCell ⟨gb187, 3, none⟩ (.bool ((rd_T43 l0 x8_1).f3)))).cell? _ = some _ from hx190_3)); clear hn190_0; clear hn190_1; clear hn190_2; clear hn190_3; replace p190 := eq_true p190; replace q190 := eq_true q190)
           go_wp2_with (first | ((with_reducible refine gate_dst (N := 5) rfl ?_); (try (refine gate_guard (by rfl) ?_; dsimp only)); refine box_event ?hg (N := 5) ?hd (cs := #[.int .i64 0, .int .i64 0, .slice none 0 0, .bool false]) (t := 43) ?hr ?_; (case hd => rfl); (case hg => rfl); (case hr => first | (go_simp; done) | (go_simp; rfl)); intro gb187 hg w14 hbox hb; have n0_ := am (below_step (by repeat (first | (with_reducible first | exact HB.out | apply bal | apply pdn | apply bd1) | exact HB.out)) hb); have n1_ := am (hbox); have n2_ := am ((by rw [hg]; exact (below_size (by repeat (first | (with_reducible first | exact HB.out | apply bal | apply pdn | apply bd1) | exact HB.out))) : w.heap.size ≤ gb187)); have n3_ := am ((by rw [hg]; exact (below_size (by repeat (first | (with_reducible first | exact HB.out | apply bal | apply pdn | apply bd1) | exact HB.out))) : w.heap.size ≤ gb187)); clear HB; have HB := n0_; have BK187 := n1_; have GW187 := n2_; have GE187 := n3_; clear n0_ n1_ n2_ n3_; clear hb hbox hg; have hcz15_0 : w14.cell? ⟨gb187, 0, none⟩ = some (.int .i64 0) := (kce BK187.out 0).trans rfl; have hcz15_1 : w14.cell? ⟨gb187, 1, none⟩ = some (.int .i64 0) := (kce BK187.out 1).trans rfl; have hcz15_2 : w14.cell? ⟨gb187, 2, none⟩ = some (.slice none 0 0) := (kce BK187.out 2).trans rfl; have hcz15_3 : w14.cell? ⟨gb187, 3, none⟩ = some (.bool false) := (kce BK187.out 3).trans rfl; have hfz15_0 := kfr BK187.out 0; have hfz15_1 := kfr BK187.out 1; have hfz15_2 := kfr BK187.out 2; have hfz15_3 := kfr BK187.out 3) | (go_at_call 47; (with_reducible refine (impl_between.calls ((rd_T43 l0 x8_1).f1) ((rd_T43 l0 x8_1).f0) 60 true _ A6.out).mono ?_); rintro e w' ⟨rfl, ⟨nd, rfl⟩⟩; (try first | exact ⟨rfl, _, World.drewN_drewN _ _ _⟩ | exact ⟨rfl, _, Eq.trans (World.drewN_drewN _ _ _) (congrArg (World.drewN _) (Nat.add_assoc _ _ _))⟩)) | (go_at_call 15; (with_reducible refine (impl_ActingOk.calls k1 _ _ ((rd_T43 l0 x8_1).f2) true _ ?side1 ?side2 A8.out).mono ?_); (case side1 => exact Kd.C_below HR186_2.out (by repeat (first | (with_reducible first | exact HB.out | apply bal | apply pdn | apply bd1 | refine bst ?_ GE187.out) | exact HB.out))); (case side2 => exact HC186_2.out); rintro e w' ⟨rfl, ⟨nd, rfl⟩⟩; (try first | exact ⟨rfl, _, World.drewN_drewN _ _ _⟩ | exact ⟨rfl, _, Eq.trans (World.drewN_drewN _ _ _) (congrArg (World.drewN _) (Nat.add_assoc _ _ _))⟩); have p190 : 0 ≤ (0 : Int) := (by omega); have q190 : 0 < (l0.length : Int) := of_decide_eq_true (by first | (with_reducible assumption) | assumption); obtain ⟨ad190, A190_2, c190_2, e190, hx190_0, hx190_1, hx190_2, hx190_3, hl190_2, hi190_2⟩ := at_T43 HR0.out 0 p190 q190; obtain rfl : ad186 = ad190 := (by injection e190); have qi190 : (0 < l0.length) = True := eq_true (by omega); (try rw [show ((0 : Int)).toNat = 0 from rfl] at hx190_0); (try rw [show 0 * 4 = 0 from rfl] at hx190_0); (try rw [Addr.add_zero'] at hx190_0); (try rw [show ((0 : Int)).toNat = 0 from rfl] at hx190_1); (try rw [show 0 * 4 = 0 from rfl] at hx190_1); (try rw [Addr.add_zero'] at hx190_1); (try rw [show ((0 : Int)).toNat = 0 from rfl] at hx190_2); (try rw [show 0 * 4 = 0 from rfl] at hx190_2); (try rw [Addr.add_zero'] at hx190_2); (try rw [show ((0 : Int)).toNat = 0 from rfl] at hx190_3); (try rw [show 0 * 4 = 0 from rfl] at hx190_3); (try rw [Addr.add_zero'] at hx190_3); have hn190_0 : ad186.block ≠ gb187 := Nat.ne_of_lt (Nat.lt_of_lt_of_le (by have := blc _ _ hx190_0; first | rwa [add_block] at this | exact this) GW187.out); have hn190_1 : ad186.block ≠ gb187 := Nat.ne_of_lt (Nat.lt_of_lt_of_le (by have := blc _ _ hx190_0; first | rwa [add_block] at this | exact this) GW187.out); have hn190_2 : ad186.block ≠ gb187 := Nat.ne_of_lt (Nat.lt_of_lt_of_le (by have := blc _ _ hx190_0; first | rwa [add_block] at this | exact this) GW187.out); have hn190_3 : ad186.block ≠ gb187 := Nat.ne_of_lt (Nat.lt_of_lt_of_le (by have := blc _ _ hx190_0; first | rwa [add_block] at this | exact this) GW187.out); replace hx190_0 := (HB.out.cell (blc w _ hx190_0)).trans hx190_0; replace hx190_1 := (HB.out.cell (blc w _ hx190_1)).trans hx190_1; replace hx190_2 := (HB.out.cell (blc w _ hx190_2)).trans hx190_2; replace hx190_3 := (HB.out.cell (blc w _ hx190_3)).trans hx190_3; have HR190_2 := am hi190_2; have HC190_2 := am hl190_2; clear hi190_2 hl190_2; replace hx190_0 := (cell_far (p := ⟨gb187, 0, none⟩) (by first | (rw [add_block]; exact hn190_0) | (show (Addr.add _ _).block ≠ _; rw [add_block]; exact hn190_0) | exact hn190_0) (.int .i64 ((rd_T43 l0 x8_1).f0))).trans hx190_0; replace hx190_1 := (cell_far (p := ⟨gb187, 0, none⟩) (by first | (rw [add_block]; exact hn190_0) | (show (Addr.add _ _).block ≠ _; rw [add_block]; exact hn190_0) | exact hn190_0) (.int .i64 ((rd_T43 l0 x8_1).f0))).trans hx190_1; replace hx190_2 := (cell_far (p := ⟨gb187, 0, none⟩) (by first | (rw [add_block]; exact hn190_0) | (show (Addr.add _ _).block ≠ _; rw [add_block]; exact hn190_0) | exact hn190_0) (.int .i64 ((rd_T43 l0 x8_1).f0))).trans hx190_2; replace hx190_3 := (cell_far (p := ⟨gb187, 0, none⟩) (by first | (rw [add_block]; exact hn190_0) | (show (Addr.add _ _).block ≠ _; rw [add_block]; exact hn190_0) | exact hn190_0) (.int .i64 ((rd_T43 l0 x8_1).f0))).trans hx190_3; replace hx190_0 := (cell_far (p := ⟨gb187, 1, none⟩) (by first | (rw [add_block]; exact hn190_1) | (show (Addr.add _ _).block ≠ _; rw [add_block]; exact hn190_1) | exact hn190_1) (.int .i64 ((rd_T43 l0 x8_1).f1))).trans hx190_0; replace hx190_1 := (cell_far (p := ⟨gb187, 1, none⟩) (by first | (rw [add_block]; exact hn190_1) | (show (Addr.add _ _).block ≠ _; rw [add_block]; exact hn190_1) | exact hn190_1) (.int .i64 ((rd_T43 l0 x8_1).f1))).trans hx190_1; replace hx190_2 := (cell_far (p := ⟨gb187, 1, none⟩) (by first | (rw [add_block]; exact hn190_1) | (show (Addr.add _ _).block ≠ _; rw [add_block]; exact hn190_1) | exact hn190_1) (.int .i64 ((rd_T43 l0 x8_1).f1))).trans hx190_2; replace hx190_3 := (cell_far (p := ⟨gb187, 1, none⟩) (by first | (rw [add_block]; exact hn190_1) | (show (Addr.add _ _).block ≠ _; rw [add_block]; exact hn190_1) | exact hn190_1) (.int .i64 ((rd_T43 l0 x8_1).f1))).trans hx190_3; replace hx190_0 := (cell_far (p := ⟨gb187, 2, none⟩) (by first | (rw [add_block]; exact hn190_2) | (show (Addr.add _ _).block ≠ _; rw [add_block]; exact hn190_2) | exact hn190_2) (.slice A186_2 ((rd_T43 l0 x8_1).f2).length c186_2)).trans hx190_0; replace hx190_1 := (cell_far (p := ⟨gb187, 2, none⟩) (by first | (rw [add_block]; exact hn190_2) | (show (Addr.add _ _).block ≠ _; rw [add_block]; exact hn190_2) | exact hn190_2) (.slice A186_2 ((rd_T43 l0 x8_1).f2).length c186_2)).trans hx190_1; replace hx190_2 := (cell_far (p := ⟨gb187, 2, none⟩) (by first | (rw [add_block]; exact hn190_2) | (show (Addr.add _ _).block ≠ _; rw [add_block]; exact hn190_2) | exact hn190_2) (.slice A186_2 ((rd_T43 l0 x8_1).f2).length c186_2)).trans hx190_2; replace hx190_3 := (cell_far (p := ⟨gb187, 2, none⟩) (by first | (rw [add_block]; exact hn190_2) | (show (Addr.add _ _).block ≠ _; rw [add_block]; exact hn190_2) | exact hn190_2) (.slice A186_2 ((rd_T43 l0 x8_1).f2).length c186_2)).trans hx190_3; replace hx190_0 := (cell_far (p := ⟨gb187, 3, none⟩) (by first | (rw [add_block]; exact hn190_3) | (show (Addr.add _ _).block ≠ _; rw [add_block]; exact hn190_3) | exact hn190_3) (.bool ((rd_T43 l0 x8_1).f3))).trans hx190_0; replace hx190_1 := (cell_far (p := ⟨gb187, 3, none⟩) (by first | (rw [add_block]; exact hn190_3) | (show (Addr.add _ _).block ≠ _; rw [add_block]; exact hn190_3) | exact hn190_3) (.bool ((rd_T43 l0 x8_1).f3))).trans hx190_1; replace hx190_2 := (cell_far (p := ⟨gb187, 3, none⟩) (by first | (rw [add_block]; exact hn190_3) | (show (Addr.add _ _).block ≠ _; rw [add_block]; exact hn190_3) | exact hn190_3) (.bool ((rd_T43 l0 x8_1).f3))).trans hx190_2; replace hx190_3 := (cell_far (p := ⟨gb187, 3, none⟩) (by first | (rw [add_block]; exact hn190_3) | (show (Addr.add _ _).block ≠ _; rw [add_block]; exact hn190_3) | exact hn190_3) (.bool ((rd_T43 l0 x8_1).f3))).trans hx190_3; (try have hy190_0 := fun (n_ : Nat) => (show ((((((w14.drewN n_).setCell ⟨gb187, 0, none⟩ (.int .i64 ((rd_T43 l0 x8_1).f0))).setCell ⟨gb187, 1, none⟩ (.int .i64 ((rd_T43 l0 x8_1).f1))).setCell ⟨gb187, 2, none⟩ (.slice A186_2 ((rd_T43 l0 x8_1).f2).length c186_2)).setCell ⟨gb187, 3, none⟩ (.bool ((rd_T43 l0 x8_1).f3)))).cell? _ = some _ from hx190_0)); (try have hy190_1 := fun (n_ : Nat) => (show ((((((w14.drewN n_).setCell ⟨gb187, 0, none⟩ (.int .i64 ((rd_T43 l0 x8_1).f0))).setCell ⟨gb187, 1, none⟩ (.int .i64 ((rd_T43 l0 x8_1).f1))).setCell ⟨gb187, 2, none⟩ (.slice A186_2 ((rd_T43 l0 x8_1).f2).length c186_2)).setCell ⟨gb187, 3, none⟩ (.bool ((rd_T43 l0 x8_1).f3)))).cell? _ = some _ from hx190_1)); (try have hy190_2 := fun (n_ : Nat) => (show ((((((w14.drewN n_).setCell ⟨gb187, 0, none⟩ (.int .i64 ((rd_T43 l0 x8_1).f0))).setCell ⟨gb187, 1, none⟩ (.int .i64 ((rd_T43 l0 x8_1).f1))).setCell ⟨gb187, 2, none⟩ (.slice A186_2 ((rd_T43 l0 x8_1).f2).length c186_2)).setCell ⟨gb187, 3, none⟩ (.bool ((rd_T43 l0 x8_1).f3)))).cell? _ = some _ from hx190_2)); (try have hy190_3 := fun (n_ : Nat) => (show ((((((w14.drewN n_).setCell ⟨gb187, 0, none⟩ (.int .i64 ((rd_T43 l0 x8_1).f0))).setCell ⟨gb187, 1, none⟩ (.int .i64 ((rd_T43 l0 x8_1).f1))).setCell ⟨gb187, 2, none⟩ (.slice A186_2 ((rd_T43 l0 x8_1).f2).length c186_2)).setCell ⟨gb187, 3, none⟩ (.bool ((rd_T43 l0 x8_1).f3)))).cell? _ = some _ from hx190_3)); clear hn190_0; clear hn190_1; clear hn190_2; clear hn190_3; replace p190 := eq_true p190; replace q190 := eq_true q190))
           first | (have hz_ := hy190_3; clear hz_) | (have p190 : 0 ≤ (0 : Int) := (by omega); have q190 : 0 < (l0.length : Int) := of_decide_eq_true (by first | (with_reducible assumption) | assumption); obtain ⟨ad190, A190_2, c190_2, e190, hx190_0, hx190_1, hx190_2, hx190_3, hl190_2, hi190_2⟩ := at_T43 HR0.out 0 p190 q190; obtain rfl : ad186 = ad190 := (by injection e190); have qi190 : (0 < l0.length) = True := eq_true (by omega); (try rw [show ((0 : Int)).toNat = 0 from rfl] at hx190_0); (try rw [show 0 * 4 = 0 from rfl] at hx190_0); (try rw [Addr.add_zero'] at hx190_0); (try rw [show ((0 : Int)).toNat = 0 from rfl] at hx190_1); (try rw [show 0 * 4 = 0 from rfl] at hx190_1); (try rw [Addr.add_zero'] at hx190_1); (try rw [show ((0 : Int)).toNat = 0 from rfl] at hx190_2); (try rw [show 0 * 4 = 0 from rfl] at hx190_2); (try rw [Addr.add_zero'] at hx190_2); (try rw [show ((0 : Int)).toNat = 0 from rfl] at hx190_3); (try rw [show 0 * 4 = 0 from rfl] at hx190_3); (try rw [Addr.add_zero'] at hx190_3); have hn190_0 : ad186.block ≠ gb187 := Nat.ne_of_lt (Nat.lt_of_lt_of_le (by have := blc _ _ hx190_0; first | rwa [add_block] at this | exact this) GW187.out); have hn190_1 : ad186.block ≠ gb187 := Nat.ne_of_lt (Nat.lt_of_lt_of_le (by have := blc _ _ hx190_0; first | rwa [add_block] at this | exact this) GW187.out); have hn190_2 : ad186.block ≠ gb187 := Nat.ne_of_lt (Nat.lt_of_lt_of_le (by have := blc _ _ hx190_0; first | rwa [add_block] at this | exact this) GW187.out); have hn190_3 : ad186.block ≠ gb187 := Nat.ne_of_lt (Nat.lt_of_lt_of_le (by have := blc _ _ hx190_0; first | rwa [add_block] at this | exact this) GW187.out); replace hx190_0 := (HB.out.cell (blc w _ hx190_0)).trans hx190_0; replace hx190_1 := (HB.out.cell (blc w _ hx190_1)).trans hx190_1; replace hx190_2 := (HB.out.cell (blc w _ hx190_2)).trans hx190_2; replace hx190_3 := (HB.out.cell (blc w _ hx190_3)).trans hx190_3; have HR190_2 := am hi190_2; have HC190_2 := am hl190_2; clear hi190_2 hl190_2; replace hx190_0 := (cell_far (p := ⟨gb187, 0, none⟩) (by first | (rw [add_block]; exact hn190_0) | (show (Addr.add _ _).block ≠ _; rw [add_block]; exact hn190_0) | exact hn190_0) (.int .i64 ((rd_T43 l0 x8_1).f0))).trans hx190_0; replace hx190_1 := (cell_far (p := ⟨gb187, 0, none⟩) (by first | (rw [add_block]; exact hn190_0) | (show (Addr.add _ _).block ≠ _; rw [add_block]; exact hn190_0) | exact hn190_0) (.int .i64 ((rd_T43 l0 x8_1).f0))).trans hx190_1; replace hx190_2 := (cell_far (p := ⟨gb187, 0, none⟩) (by first | (rw [add_block]; exact hn190_0) | (show (Addr.add _ _).block ≠ _; rw [add_block]; exact hn190_0) | exact hn190_0) (.int .i64 ((rd_T43 l0 x8_1).f0))).trans hx190_2; replace hx190_3 := (cell_far (p := ⟨gb187, 0, none⟩) (by first | (rw [add_block]; exact hn190_0) | (show (Addr.add _ _).block ≠ _; rw [add_block]; exact hn190_0) | exact hn190_0) (.int .i64 ((rd_T43 l0 x8_1).f0))).trans hx190_3; replace hx190_0 := (cell_far (p := ⟨gb187, 1, none⟩) (by first | (rw [add_block]; exact hn190_1) | (show (Addr.add _ _).block ≠ _; rw [add_block]; exact hn190_1) | exact hn190_1) (.int .i64 ((rd_T43 l0 x8_1).f1))).trans hx190_0; replace hx190_1 := (cell_far (p := ⟨gb187, 1, none⟩) (by first | (rw [add_block]; exact hn190_1) | (show (Addr.add _ _).block ≠ _; rw [add_block]; exact hn190_1) | exact hn190_1) (.int .i64 ((rd_T43 l0 x8_1).f1))).trans hx190_1; replace hx190_2 := (cell_far (p := ⟨gb187, 1, none⟩) (by first | (rw [add_block]; exact hn190_1) | (show (Addr.add _ _).block ≠ _; rw [add_block]; exact hn190_1) | exact hn190_1) (.int .i64 ((rd_T43 l0 x8_1).f1))).trans hx190_2; replace hx190_3 := (cell_far (p := ⟨gb187, 1, none⟩) (by first | (rw [add_block]; exact hn190_1) | (show (Addr.add _ _).block ≠ _; rw [add_block]; exact hn190_1) | exact hn190_1) (.int .i64 ((rd_T43 l0 x8_1).f1))).trans hx190_3; replace hx190_0 := (cell_far (p := ⟨gb187, 2, none⟩) (by first | (rw [add_block]; exact hn190_2) | (show (Addr.add _ _).block ≠ _; rw [add_block]; exact hn190_2) | exact hn190_2) (.slice A186_2 ((rd_T43 l0 x8_1).f2).length c186_2)).trans hx190_0; replace hx190_1 := (cell_far (p := ⟨gb187, 2, none⟩) (by first | (rw [add_block]; exact hn190_2) | (show (Addr.add _ _).block ≠ _; rw [add_block]; exact hn190_2) | exact hn190_2) (.slice A186_2 ((rd_T43 l0 x8_1).f2).length c186_2)).trans hx190_1; replace hx190_2 := (cell_far (p := ⟨gb187, 2, none⟩) (by first | (rw [add_block]; exact hn190_2) | (show (Addr.add _ _).block ≠ _; rw [add_block]; exact hn190_2) | exact hn190_2) (.slice A186_2 ((rd_T43 l0 x8_1).f2).length c186_2)).trans hx190_2; replace hx190_3 := (cell_far (p := ⟨gb187, 2, none⟩) (by first | (rw [add_block]; exact hn190_2) | (show (Addr.add _ _).block ≠ _; rw [add_block]; exact hn190_2) | exact hn190_2) (.slice A186_2 ((rd_T43 l0 x8_1).f2).length c186_2)).trans hx190_3; replace hx190_0 := (cell_far (p := ⟨gb187, 3, none⟩) (by first | (rw [add_block]; exact hn190_3) | (show (Addr.add _ _).block ≠ _; rw [add_block]; exact hn190_3) | exact hn190_3) (.bool ((rd_T43 l0 x8_1).f3))).trans hx190_0; replace hx190_1 := (cell_far (p := ⟨gb187, 3, none⟩) (by first | (rw [add_block]; exact hn190_3) | (show (Addr.add _ _).block ≠ _; rw [add_block]; exact hn190_3) | exact hn190_3) (.bool ((rd_T43 l0 x8_1).f3))).trans hx190_1; replace hx190_2 := (cell_far (p := ⟨gb187, 3, none⟩) (by first | (rw [add_block]; exact hn190_3) | (show (Addr.add _ _).block ≠ _; rw [add_block]; exact hn190_3) | exact hn190_3) (.bool ((rd_T43 l0 x8_1).f3))).trans hx190_2; replace hx190_3 := (cell_far (p := ⟨gb187, 3, none⟩) (by first | (rw [add_block]; exact hn190_3) | (show (Addr.add _ _).block ≠ _; rw [add_block]; exact hn190_3) | exact hn190_3) (.bool ((rd_T43 l0 x8_1).f3))).trans hx190_3; (try have hy190_0 := fun (n_ : Nat) => (show ((((((w14.drewN n_).setCell ⟨gb187, 0, none⟩ (.int .i64 ((rd_T43 l0 x8_1).f0))).setCell ⟨gb187, 1, none⟩ (.int .i64 ((rd_T43 l0 x8_1).f1))).setCell ⟨gb187, 2, none⟩ (.slice A186_2 ((rd_T43 l0 x8_1).f2).length c186_2)).setCell ⟨gb187, 3, none⟩ (.bool ((rd_T43 l0 x8_1).f3)))).cell? _ = some _ from hx190_0)); (try have hy190_1 := fun (n_ : Nat) => (show ((((((w14.drewN n_).setCell ⟨gb187, 0, none⟩ (.int .i64 ((rd_T43 l0 x8_1).f0))).setCell ⟨gb187, 1, none⟩ (.int .i64 ((rd_T43 l0 x8_1).f1))).setCell ⟨gb187, 2, none⟩ (.slice A186_2 ((rd_T43 l0 x8_1).f2).length c186_2)).setCell ⟨gb187, 3, none⟩ (.bool ((rd_T43 l0 x8_1).f3)))).cell? _ = some _ from hx190_1)); (try have hy190_2 := fun (n_ : Nat) => (show ((((((w14.drewN n_).setCell ⟨gb187, 0, none⟩ (.int .i64 ((rd_T43 l0 x8_1).f0))).setCell ⟨gb187, 1, none⟩ (.int .i64 ((rd_T43 l0 x8_1).f1))).setCell ⟨gb187, 2, none⟩ (.slice A186_2 ((rd_T43 l0 x8_1).f2).length c186_2)).setCell ⟨gb187, 3, none⟩ (.bool ((rd_T43 l0 x8_1).f3)))).cell? _ = some _ from hx190_2)); (try have hy190_3 := fun (n_ : Nat) => (show ((((((w14.drewN n_).setCell ⟨gb187, 0, none⟩ (.int .i64 ((rd_T43 l0 x8_1).f0))).setCell ⟨gb187, 1, none⟩ (.int .i64 ((rd_T43 l0 x8_1).f1))).setCell ⟨gb187, 2, none⟩ (.slice A186_2 ((rd_T43 l0 x8_1).f2).length c186_2)).setCell ⟨gb187, 3, none⟩ (.bool ((rd_T43 l0 x8_1).f3)))).cell? _ = some _ from hx190_3)); clear hn190_0; clear hn190_1; clear hn190_2; clear hn190_3; replace p190 := eq_true p190; replace q190 := eq_true q190) | skip
           repeat (go_quiet (first | ((with_reducible refine gate_dst (N := 5) rfl ?_); (try (refine gate_guard (by rfl) ?_; dsimp only)); refine box_event ?hg (N := 5) ?hd (cs := #[.int .i64 0, .int .i64 0, .slice none 0 0, .bool false]) (t := 43) ?hr ?_; (case hd => rfl); (case hg => rfl); (case hr => first | (go_simp; done) | (go_simp; rfl)); intro gb187 hg w14 hbox hb; have n0_ := am (below_step (by repeat (first | (with_reducible first | exact HB.out | apply bal | apply pdn | apply bd1) | exact HB.out)) hb); have n1_ := am (hbox); have n2_ := am ((by rw [hg]; exact (below_size (by repeat (first | (with_reducible first | exact HB.out | apply bal | apply pdn | apply bd1) | exact HB.out))) : w.heap.size ≤ gb187)); have n3_ := am ((by rw [hg]; exact (below_size (by repeat (first | (with_reducible first | exact HB.out | apply bal | apply pdn | apply bd1) | exact HB.out))) : w.heap.size ≤ gb187)); clear HB; have HB := n0_; have BK187 := n1_; have GW187 := n2_; have GE187 := n3_; clear n0_ n1_ n2_ n3_; clear hb hbox hg; have hcz15_0 : w14.cell? ⟨gb187, 0, none⟩ = some (.int .i64 0) := (kce BK187.out 0).trans rfl; have hcz15_1 : w14.cell? ⟨gb187, 1, none⟩ = some (.int .i64 0) := (kce BK187.out 1).trans rfl; have hcz15_2 : w14.cell? ⟨gb187, 2, none⟩ = some (.slice none 0 0) := (kce BK187.out 2).trans rfl; have hcz15_3 : w14.cell? ⟨gb187, 3, none⟩ = some (.bool false) := (kce BK187.out 3).trans rfl; have hfz15_0 := kfr BK187.out 0; have hfz15_1 := kfr BK187.out 1; have hfz15_2 := kfr BK187.out 2; have hfz15_3 := kfr BK187.out 3) | (go_at_call 47; (with_reducible refine (impl_between.calls ((rd_T43 l0 x8_1).f1) ((rd_T43 l0 x8_1).f0) 60 true _ A6.out).mono ?_); rintro e w' ⟨rfl, ⟨nd, rfl⟩⟩; (try first | exact ⟨rfl, _, World.drewN_drewN _ _ _⟩ | exact ⟨rfl, _, Eq.trans (World.drewN_drewN _ _ _) (congrArg (World.drewN _) (Nat.add_assoc _ _ _))⟩)) | (go_at_call 15; (with_reducible refine (impl_ActingOk.calls k1 _ _ ((rd_T43 l0 x8_1).f2) true _ ?side1 ?side2 A8.out).mono ?_); (case side1 => exact Kd.C_below HR186_2.out (by repeat (first | (with_reducible first | exact HB.out | apply bal | apply pdn | apply bd1 | refine bst ?_ GE187.out) | exact HB.out))); (case side2 => exact HC186_2.out); rintro e w' ⟨rfl, ⟨nd, rfl⟩⟩; (try first | exact ⟨rfl, _, World.drewN_drewN _ _ _⟩ | exact ⟨rfl, _, Eq.trans (World.drewN_drewN _ _ _) (congrArg (World.drewN _) (Nat.add_assoc _ _ _))⟩))); try go_wp2_with (first | ((with_reducible refine gate_dst (N := 5) rfl ?_); (try (refine gate_guard (by rfl) ?_; dsimp only)); refine box_event ?hg (N := 5) ?hd (cs := #[.int .i64 0, .int .i64 0, .slice none 0 0, .bool false]) (t := 43) ?hr ?_; (case hd => rfl); (case hg => rfl); (case hr => first | (go_simp; done) | (go_simp; rfl)); intro gb187 hg w14 hbox hb; have n0_ := am (below_step (by repeat (first | (with_reducible first | exact HB.out | apply bal | apply pdn | apply bd1) | exact HB.out)) hb); have n1_ := am (hbox); have n2_ := am ((by rw [hg]; exact (below_size (by repeat (first | (with_reducible first | exact HB.out | apply bal | apply pdn | apply bd1) | exact HB.out))) : w.heap.size ≤ gb187)); have n3_ := am ((by rw [hg]; exact (below_size (by repeat (first | (with_reducible first | exact HB.out | apply bal | apply pdn | apply bd1) | exact HB.out))) : w.heap.size ≤ gb187)); clear HB; have HB := n0_; have BK187 := n1_; have GW187 := n2_; have GE187 := n3_; clear n0_ n1_ n2_ n3_; clear hb hbox hg; have hcz15_0 : w14.cell? ⟨gb187, 0, none⟩ = some (.int .i64 0) := (kce BK187.out 0).trans rfl; have hcz15_1 : w14.cell? ⟨gb187, 1, none⟩ = some (.int .i64 0) := (kce BK187.out 1).trans rfl; have hcz15_2 : w14.cell? ⟨gb187, 2, none⟩ = some (.slice none 0 0) := (kce BK187.out 2).trans rfl; have hcz15_3 : w14.cell? ⟨gb187, 3, none⟩ = some (.bool false) := (kce BK187.out 3).trans rfl; have hfz15_0 := kfr BK187.out 0; have hfz15_1 := kfr BK187.out 1; have hfz15_2 := kfr BK187.out 2; have hfz15_3 := kfr BK187.out 3) | (go_at_call 47; (with_reducible refine (impl_between.calls ((rd_T43 l0 x8_1).f1) ((rd_T43 l0 x8_1).f0) 60 true _ A6.out).mono ?_); rintro e w' ⟨rfl, ⟨nd, rfl⟩⟩; (try first | exact ⟨rfl, _, World.drewN_drewN _ _ _⟩ | exact ⟨rfl, _, Eq.trans (World.drewN_drewN _ _ _) (congrArg (World.drewN _) (Nat.add_assoc _ _ _))⟩)) | (go_at_call 15; (with_reducible refine (impl_ActingOk.calls k1 _ _ ((rd_T43 l0 x8_1).f2) true _ ?side1 ?side2 A8.out).mono ?_); (case side1 => exact Kd.C_below HR186_2.out (by repeat (first | (with_reducible first | exact HB.out | apply bal | apply pdn | apply bd1 | refine bst ?_ GE187.out) | exact HB.out))); (case side2 => exact HC186_2.out); rintro e w' ⟨rfl, ⟨nd, rfl⟩⟩; (try first | exact ⟨rfl, _, World.drewN_drewN _ _ _⟩ | exact ⟨rfl, _, Eq.trans (World.drewN_drewN _ _ _) (congrArg (World.drewN _) (Nat.add_assoc _ _ _))⟩); have p190 : 0 ≤ (0 : Int) := (by omega); have q190 : 0 < (l0.length : Int) := of_decide_eq_true (by first | (with_reducible assumption) | assumption); obtain ⟨ad190, A190_2, c190_2, e190, hx190_0, hx190_1, hx190_2, hx190_3, hl190_2, hi190_2⟩ := at_T43 HR0.out 0 p190 q190; obtain rfl : ad186 = ad190 := (by injection e190); have qi190 : (0 < l0.length) = True := eq_true (by omega); (try rw [show ((0 : Int)).toNat = 0 from rfl] at hx190_0); (try rw [show 0 * 4 = 0 from rfl] at hx190_0); (try rw [Addr.add_zero'] at hx190_0); (try rw [show ((0 : Int)).toNat = 0 from rfl] at hx190_1); (try rw [show 0 * 4 = 0 from rfl] at hx190_1); (try rw [Addr.add_zero'] at hx190_1); (try rw [show ((0 : Int)).toNat = 0 from rfl] at hx190_2); (try rw [show 0 * 4 = 0 from rfl] at hx190_2); (try rw [Addr.add_zero'] at hx190_2); (try rw [show ((0 : Int)).toNat = 0 from rfl] at hx190_3); (try rw [show 0 * 4 = 0 from rfl] at hx190_3); (try rw [Addr.add_zero'] at hx190_3); have hn190_0 : ad186.block ≠ gb187 := Nat.ne_of_lt (Nat.lt_of_lt_of_le (by have := blc _ _ hx190_0; first | rwa [add_block] at this | exact this) GW187.out); have hn190_1 : ad186.block ≠ gb187 := Nat.ne_of_lt (Nat.lt_of_lt_of_le (by have := blc _ _ hx190_0; first | rwa [add_block] at this | exact this) GW187.out); have hn190_2 : ad186.block ≠ gb187 := Nat.ne_of_lt (Nat.lt_of_lt_of_le (by have := blc _ _ hx190_0; first | rwa [add_block] at this | exact this) GW187.out); have hn190_3 : ad186.block ≠ gb187 := Nat.ne_of_lt (Nat.lt_of_lt_of_le (by have := blc _ _ hx190_0; first | rwa [add_block] at this | exact this) GW187.out); replace hx190_0 := (HB.out.cell (blc w _ hx190_0)).trans hx190_0; replace hx190_1 := (HB.out.cell (blc w _ hx190_1)).trans hx190_1; replace hx190_2 := (HB.out.cell (blc w _ hx190_2)).trans hx190_2; replace hx190_3 := (HB.out.cell (blc w _ hx190_3)).trans hx190_3; have HR190_2 := am hi190_2; have HC190_2 := am hl190_2; clear hi190_2 hl190_2; replace hx190_0 := (cell_far (p := ⟨gb187, 0, none⟩) (by first | (rw [add_block]; exact hn190_0) | (show (Addr.add _ _).block ≠ _; rw [add_block]; exact hn190_0) | exact hn190_0) (.int .i64 ((rd_T43 l0 x8_1).f0))).trans hx190_0; replace hx190_1 := (cell_far (p := ⟨gb187, 0, none⟩) (by first | (rw [add_block]; exact hn190_0) | (show (Addr.add _ _).block ≠ _; rw [add_block]; exact hn190_0) | exact hn190_0) (.int .i64 ((rd_T43 l0 x8_1).f0))).trans hx190_1; replace hx190_2 := (cell_far (p := ⟨gb187, 0, none⟩) (by first | (rw [add_block]; exact hn190_0) | (show (Addr.add _ _).block ≠ _; rw [add_block]; exact hn190_0) | exact hn190_0) (.int .i64 ((rd_T43 l0 x8_1).f0))).trans hx190_2; replace hx190_3 := (cell_far (p := ⟨gb187, 0, none⟩) (by first | (rw [add_block]; exact hn190_0) | (show (Addr.add _ _).block ≠ _; rw [add_block]; exact hn190_0) | exact hn190_0) (.int .i64 ((rd_T43 l0 x8_1).f0))).trans hx190_3; replace hx190_0 := (cell_far (p := ⟨gb187, 1, none⟩) (by first | (rw [add_block]; exact hn190_1) | (show (Addr.add _ _).block ≠ _; rw [add_block]; exact hn190_1) | exact hn190_1) (.int .i64 ((rd_T43 l0 x8_1).f1))).trans hx190_0; replace hx190_1 := (cell_far (p := ⟨gb187, 1, none⟩) (by first | (rw [add_block]; exact hn190_1) | (show (Addr.add _ _).block ≠ _; rw [add_block]; exact hn190_1) | exact hn190_1) (.int .i64 ((rd_T43 l0 x8_1).f1))).trans hx190_1; replace hx190_2 := (cell_far (p := ⟨gb187, 1, none⟩) (by first | (rw [add_block]; exact hn190_1) | (show (Addr.add _ _).block ≠ _; rw [add_block]; exact hn190_1) | exact hn190_1) (.int .i64 ((rd_T43 l0 x8_1).f1))).trans hx190_2; replace hx190_3 := (cell_far (p := ⟨gb187, 1, none⟩) (by first | (rw [add_block]; exact hn190_1) | (show (Addr.add _ _).block ≠ _; rw [add_block]; exact hn190_1) | exact hn190_1) (.int .i64 ((rd_T43 l0 x8_1).f1))).trans hx190_3; replace hx190_0 := (cell_far (p := ⟨gb187, 2, none⟩) (by first | (rw [add_block]; exact hn190_2) | (show (Addr.add _ _).block ≠ _; rw [add_block]; exact hn190_2) | exact hn190_2) (.slice A186_2 ((rd_T43 l0 x8_1).f2).length c186_2)).trans hx190_0; replace hx190_1 := (cell_far (p := ⟨gb187, 2, none⟩) (by first | (rw [add_block]; exact hn190_2) | (show (Addr.add _ _).block ≠ _; rw [add_block]; exact hn190_2) | exact hn190_2) (.slice A186_2 ((rd_T43 l0 x8_1).f2).length c186_2)).trans hx190_1; replace hx190_2 := (cell_far (p := ⟨gb187, 2, none⟩) (by first | (rw [add_block]; exact hn190_2) | (show (Addr.add _ _).block ≠ _; rw [add_block]; exact hn190_2) | exact hn190_2) (.slice A186_2 ((rd_T43 l0 x8_1).f2).length c186_2)).trans hx190_2; replace hx190_3 := (cell_far (p := ⟨gb187, 2, none⟩) (by first | (rw [add_block]; exact hn190_2) | (show (Addr.add _ _).block ≠ _; rw [add_block]; exact hn190_2) | exact hn190_2) (.slice A186_2 ((rd_T43 l0 x8_1).f2).length c186_2)).trans hx190_3; replace hx190_0 := (cell_far (p := ⟨gb187, 3, none⟩) (by first | (rw [add_block]; exact hn190_3) | (show (Addr.add _ _).block ≠ _; rw [add_block]; exact hn190_3) | exact hn190_3) (.bool ((rd_T43 l0 x8_1).f3))).trans hx190_0; replace hx190_1 := (cell_far (p := ⟨gb187, 3, none⟩) (by first | (rw [add_block]; exact hn190_3) | (show (Addr.add _ _).block ≠ _; rw [add_block]; exact hn190_3) | exact hn190_3) (.bool ((rd_T43 l0 x8_1).f3))).trans hx190_1; replace hx190_2 := (cell_far (p := ⟨gb187, 3, none⟩) (by first | (rw [add_block]; exact hn190_3) | (show (Addr.add _ _).block ≠ _; rw [add_block]; exact hn190_3) | exact hn190_3) (.bool ((rd_T43 l0 x8_1).f3))).trans hx190_2; replace hx190_3 := (cell_far (p := ⟨gb187, 3, none⟩) (by first | (rw [add_block]; exact hn190_3) | (show (Addr.add _ _).block ≠ _; rw [add_block]; exact hn190_3) | exact hn190_3) (.bool ((rd_T43 l0 x8_1).f3))).trans hx190_3; (try have hy190_0 := fun (n_ : Nat) => (show ((((((w14.drewN n_).setCell ⟨gb187, 0, none⟩ (.int .i64 ((rd_T43 l0 x8_1).f0))).setCell ⟨gb187, 1, none⟩ (.int .i64 ((rd_T43 l0 x8_1).f1))).setCell ⟨gb187, 2, none⟩ (.slice A186_2 ((rd_T43 l0 x8_1).f2).length c186_2)).setCell ⟨gb187, 3, none⟩ (.bool ((rd_T43 l0 x8_1).f3)))).cell? _ = some _ from hx190_0)); (try have hy190_1 := fun (n_ : Nat) => (show ((((((w14.drewN n_).setCell ⟨gb187, 0, none⟩ (.int .i64 ((rd_T43 l0 x8_1).f0))).setCell ⟨gb187, 1, none⟩ (.int .i64 ((rd_T43 l0 x8_1).f1))).setCell ⟨gb187, 2, none⟩ (.slice A186_2 ((rd_T43 l0 x8_1).f2).length c186_2)).setCell ⟨gb187, 3, none⟩ (.bool ((rd_T43 l0 x8_1).f3)))).cell? _ = some _ from hx190_1)); (try have hy190_2 := fun (n_ : Nat) => (show ((((((w14.drewN n_).setCell ⟨gb187, 0, none⟩ (.int .i64 ((rd_T43 l0 x8_1).f0))).setCell ⟨gb187, 1, none⟩ (.int .i64 ((rd_T43 l0 x8_1).f1))).setCell ⟨gb187, 2, none⟩ (.slice A186_2 ((rd_T43 l0 x8_1).f2).length c186_2)).setCell ⟨gb187, 3, none⟩ (.bool ((rd_T43 l0 x8_1).f3)))).cell? _ = some _ from hx190_2)); (try have hy190_3 := fun (n_ : Nat) => (show ((((((w14.drewN n_).setCell ⟨gb187, 0, none⟩ (.int .i64 ((rd_T43 l0 x8_1).f0))).setCell ⟨gb187, 1, none⟩ (.int .i64 ((rd_T43 l0 x8_1).f1))).setCell ⟨gb187, 2, none⟩ (.slice A186_2 ((rd_T43 l0 x8_1).f2).length c186_2)).setCell ⟨gb187, 3, none⟩ (.bool ((rd_T43 l0 x8_1).f3)))).cell? _ = some _ from hx190_3)); clear hn190_0; clear hn190_1; clear hn190_2; clear hn190_3; replace p190 := eq_true p190; replace q190 := eq_true q190)))
           go_ret
           exact ⟨by first | rfl | (simp [errW_none, errW_some] <;> rfl) | (simp [*, errW_none, errW_some] <;> rfl), by repeat (first | (with_reducible first | exact HB.out | apply bal | apply pdn | apply bd1 | refine bst ?_ GE187.out) | exact HB.out)⟩
         ·rw [if_neg c10] at H
          exact absurd H (by simp)
        ·replace c9 := Bool.eq_false_iff.mpr c9
         subst c9
         have H1 : (some false) = some r := by rw [if_neg (show ¬ (false = true) by decide)] at H; exact H
         clear H
         have H := H1
         clear H1
         obtain rfl := Option.some.inj H
         have p186 : 0 ≤ (x8_1 : Int) := of_decide_eq_true (by first | (with_reducible assumption) | assumption)
         have q186 : x8_1 < (l0.length : Int) := of_decide_eq_true (by first | (with_reducible assumption) | assumption)
         obtain ⟨ad186, A186_2, c186_2, e186, hx186_0, hx186_1, hx186_2, hx186_3, hl186_2, hi186_2⟩ := at_T43 HR0.out x8_1 p186 q186
         cases e186
         replace hx186_0 := (HB.out.cell (blc w _ hx186_0)).trans hx186_0
         replace hx186_1 := (HB.out.cell (blc w _ hx186_1)).trans hx186_1
         replace hx186_2 := (HB.out.cell (blc w _ hx186_2)).trans hx186_2
         replace hx186_3 := (HB.out.cell (blc w _ hx186_3)).trans hx186_3
         have HR186_2 := am hi186_2
         have HC186_2 := am hl186_2
         clear hi186_2 hl186_2
         replace p186 := eq_true p186
         replace q186 := eq_true q186
         go_wp2_with (first | ((with_reducible refine gate_dst (N := 5) rfl ?_); (try (refine gate_guard (by rfl) ?_; dsimp only)); refine box_event ?hg (N := 5) ?hd (cs := #[.int .i64 0, .int .i64 0, .slice none 0 0, .bool false]) (t := 43) ?hr ?_; (case hd => rfl); (case hg => rfl); (case hr => first | (go_simp; done) | (go_simp; rfl)); intro gb187 hg w16 hbox hb; have n0_ := am (below_step (by repeat (first | (with_reducible first | exact HB.out | apply bal | apply pdn | apply bd1) | exact HB.out)) hb); have n1_ := am (hbox); have n2_ := am ((by rw [hg]; exact (below_size (by repeat (first | (with_reducible first | exact HB.out | apply bal | apply pdn | apply bd1) | exact HB.out))) : w.heap.size ≤ gb187)); have n3_ := am ((by rw [hg]; exact (below_size (by repeat (first | (with_reducible first | exact HB.out | apply bal | apply pdn | apply bd1) | exact HB.out))) : w.heap.size ≤ gb187)); clear HB; have HB := n0_; have BK187 := n1_; have GW187 := n2_; have GE187 := n3_; clear n0_ n1_ n2_ n3_; clear hb hbox hg; have hcz17_0 : w16.cell? ⟨gb187, 0, none⟩ = some (.int .i64 0) := (kce BK187.out 0).trans rfl; have hcz17_1 : w16.cell? ⟨gb187, 1, none⟩ = some (.int .i64 0) := (kce BK187.out 1).trans rfl; have hcz17_2 : w16.cell? ⟨gb187, 2, none⟩ = some (.slice none 0 0) := (kce BK187.out 2).trans rfl; have hcz17_3 : w16.cell? ⟨gb187, 3, none⟩ = some (.bool false) := (kce BK187.out 3).trans rfl; have hfz17_0 := kfr BK187.out 0; have hfz17_1 := kfr BK187.out 1; have hfz17_2 := kfr BK187.out 2; have hfz17_3 := kfr BK187.out 3) | (go_at_call 47; (with_reducible refine (impl_between.calls ((rd_T43 l0 x8_1).f1) ((rd_T43 l0 x8_1).f0) 60 true _ A6.out).mono ?_); rintro e w' ⟨rfl, ⟨nd, rfl⟩⟩; (try first | exact ⟨rfl, _, World.drewN_drewN _ _ _⟩ | exact ⟨rfl, _, Eq.trans (World.drewN_drewN _ _ _) (congrArg (World.drewN _) (Nat.add_assoc _ _ _))⟩)) | (go_at_call 15; (with_reducible refine (impl_ActingOk.calls k1 _ _ ((rd_T43 l0 x8_1).f2) false _ ?side1 ?side2 A8.out).mono ?_); (case side1 => exact Kd.C_below HR186_2.out (by repeat (first | (with_reducible first | exact HB.out | apply bal | apply pdn | apply bd1 | refine bst ?_ GE187.out) | exact HB.out))); (case side2 => exact HC186_2.out); rintro e w' ⟨rfl, ⟨nd, rfl⟩⟩; (try first | exact ⟨rfl, _, World.drewN_drewN _ _ _⟩ | exact ⟨rfl, _, Eq.trans (World.drewN_drewN _ _ _) (congrArg (World.drewN _) (Nat.add_assoc _ _ _))⟩)))
         repeat (go_quiet (first | ((with_reducible refine gate_dst (N := 5) rfl ?_); (try (refine gate_guard (by rfl) ?_; dsimp only)); refine box_event ?hg (N := 5) ?hd (cs := #[.int .i64 0, .int .i64 0, .slice none 0 0, .bool false]) (t := 43) ?hr ?_; (case hd => rfl); (case hg => rfl); (case hr => first | (go_simp; done) | (go_simp; rfl)); intro gb187 hg w16 hbox hb; have n0_ := am (below_step (by repeat (first | (with_reducible first | exact HB.out | apply bal | apply pdn | apply bd1) | exact HB.out)) hb); have n1_ := am (hbox); have n2_ := am ((by rw [hg]; exact (below_size (by repeat (first | (with_reducible first | exact HB.out | apply bal | apply pdn | apply bd1) | exact HB.out))) : w.heap.size ≤ gb187)); have n3_ := am ((by rw [hg]; exact (below_size (by repeat (first | (with_reducible first | exact HB.out | apply bal | apply pdn | apply bd1) | exact HB.out))) : w.heap.size ≤ gb187)); clear HB; have HB := n0_; have BK187 := n1_; have GW187 := n2_; have GE187 := n3_; clear n0_ n1_ n2_ n3_; clear hb hbox hg; have hcz17_0 : w16.cell? ⟨gb187, 0, none⟩ = some (.int .i64 0) := (kce BK187.out 0).trans rfl; have hcz17_1 : w16.cell? ⟨gb187, 1, none⟩ = some (.int .i64 0) := (kce BK187.out 1).trans rfl; have hcz17_2 : w16.cell? ⟨gb187, 2, none⟩ = some (.slice none 0 0) := (kce BK187.out 2).trans rfl; have hcz17_3 : w16.cell? ⟨gb187, 3, none⟩ = some (.bool false) := (kce BK187.out 3).trans rfl; have hfz17_0 := kfr BK187.out 0; have hfz17_1 := kfr BK187.out 1; have hfz17_2 := kfr BK187.out 2; have hfz17_3 := kfr BK187.out 3) | (go_at_call 47; (with_reducible refine (impl_between.calls ((rd_T43 l0 x8_1).f1) ((rd_T43 l0 x8_1).f0) 60 true _ A6.out).mono ?_); rintro e w' ⟨rfl, ⟨nd, rfl⟩⟩; (try first | exact ⟨rfl, _, World.drewN_drewN _ _ _⟩ | exact ⟨rfl, _, Eq.trans (World.drewN_drewN _ _ _) (congrArg (World.drewN _) (Nat.add_assoc _ _ _))⟩)) | (go_at_call 15; (with_reducible refine (impl_ActingOk.calls k1 _ _ ((rd_T43 l0 x8_1).f2) false _ ?side1 ?side2 A8.out).mono ?_); (case side1 => exact Kd.C_below HR186_2.out (by repeat (first | (with_reducible first | exact HB.out | apply bal | apply pdn | apply bd1 | refine bst ?_ GE187.out) | exact HB.out))); (case side2 => exact HC186_2.out); rintro e w' ⟨rfl, ⟨nd, rfl⟩⟩; (try first | exact ⟨rfl, _, World.drewN_drewN _ _ _⟩ | exact ⟨rfl, _, Eq.trans (World.drewN_drewN _ _ _) (congrArg (World.drewN _) (Nat.add_assoc _ _ _))⟩))); try go_wp2_with (first | ((with_reducible refine gate_dst (N := 5) rfl ?_); (try (refine gate_guard (by rfl) ?_; dsimp only)); refine box_event ?hg (N := 5) ?hd (cs := #[.int .i64 0, .int .i64 0, .slice none 0 0, .bool false]) (t := 43) ?hr ?_; (case hd => rfl); (case hg => rfl); (case hr => first | (go_simp; done) | (go_simp; rfl)); intro gb187 hg w16 hbox hb; have n0_ := am (below_step (by repeat (first | (with_reducible first | exact HB.out | apply bal | apply pdn | apply bd1) | exact HB.out)) hb); have n1_ := am (hbox); have n2_ := am ((by rw [hg]; exact (below_size (by repeat (first | (with_reducible first | exact HB.out | apply bal | apply pdn | apply bd1) | exact HB.out))) : w.heap.size ≤ gb187)); have n3_ := am ((by rw [hg]; exact (below_size (by repeat (first | (with_reducible first | exact HB.out | apply bal | apply pdn | apply bd1) | exact HB.out))) : w.heap.size ≤ gb187)); clear HB; have HB := n0_; have BK187 := n1_; have GW187 := n2_; have GE187 := n3_; clear n0_ n1_ n2_ n3_; clear hb hbox hg; have hcz17_0 : w16.cell? ⟨gb187, 0, none⟩ = some (.int .i64 0) := (kce BK187.out 0).trans rfl; have hcz17_1 : w16.cell? ⟨gb187, 1, none⟩ = some (.int .i64 0) := (kce BK187.out 1).trans rfl; have hcz17_2 : w16.cell? ⟨gb187, 2, none⟩ = some (.slice none 0 0) := (kce BK187.out 2).trans rfl; have hcz17_3 : w16.cell? ⟨gb187, 3, none⟩ = some (.bool false) := (kce BK187.out 3).trans rfl; have hfz17_0 := kfr BK187.out 0; have hfz17_1 := kfr BK187.out 1; have hfz17_2 := kfr BK187.out 2; have hfz17_3 := kfr BK187.out 3) | (go_at_call 47; (with_reducible refine (impl_between.calls ((rd_T43 l0 x8_1).f1) ((rd_T43 l0 x8_1).f0) 60 true _ A6.out).mono ?_); rintro e w' ⟨rfl, ⟨nd, rfl⟩⟩; (try first | exact ⟨rfl, _, World.drewN_drewN _ _ _⟩ | exact ⟨rfl, _, Eq.trans (World.drewN_drewN _ _ _) (congrArg (World.drewN _) (Nat.add_assoc _ _ _))⟩)) | (go_at_call 15; (with_reducible refine (impl_ActingOk.calls k1 _ _ ((rd_T43 l0 x8_1).f2) false _ ?side1 ?side2 A8.out).mono ?_); (case side1 => exact Kd.C_below HR186_2.out (by repeat (first | (with_reducible first | exact HB.out | apply bal | apply pdn | apply bd1 | refine bst ?_ GE187.out) | exact HB.out))); (case side2 => exact HC186_2.out); rintro e w' ⟨rfl, ⟨nd, rfl⟩⟩; (try first | exact ⟨rfl, _, World.drewN_drewN _ _ _⟩ | exact ⟨rfl, _, Eq.trans (World.drewN_drewN _ _ _) (congrArg (World.drewN _) (Nat.add_assoc _ _ _))⟩))))
         go_ret
         exact ⟨by first | rfl | (simp [errW_none, errW_some] <;> rfl) | (simp [*, errW_none, errW_some] <;> rfl), by repeat (first | (with_reducible first | exact HB.out | apply bal | apply pdn | apply bd1 | refine bst ?_ GE187.out) | exact HB.out)⟩
       ·replace c7 := Bool.eq_false_iff.mpr c7
        subst c7
        have H1 : (some false) = some r := by rw [if_neg (show ¬ (false = true) by decide)] at H; exact H
        clear H
        have H := H1
        clear H1
        obtain rfl := Option.some.inj H
        have p186 : 0 ≤ (x8_1 : Int) := of_decide_eq_true (by first | (with_reducible assumption) | assumption)
        have q186 : x8_1 < (l0.length : Int) := of_decide_eq_true (by first | (with_reducible assumption) | assumption)
        obtain ⟨ad186, A186_2, c186_2, e186, hx186_0, hx186_1, hx186_2, hx186_3, hl186_2, hi186_2⟩ := at_T43 HR0.out x8_1 p186 q186
        cases e186
        replace hx186_0 := (HB.out.cell (blc w _ hx186_0)).trans hx186_0
        replace hx186_1 := (HB.out.cell (blc w _ hx186_1)).trans hx186_1
        replace hx186_2 := (HB.out.cell (blc w _ hx186_2)).trans hx186_2
        replace hx186_3 := (HB.out.cell (blc w _ hx186_3)).trans hx186_3
        have HR186_2 := am hi186_2
        have HC186_2 := am hl186_2
        clear hi186_2 hl186_2
        replace p186 := eq_true p186
        replace q186 := eq_true q186
        go_wp2_with (first | ((with_reducible refine gate_dst (N := 5) rfl ?_); (try (refine gate_guard (by rfl) ?_; dsimp only)); refine box_event ?hg (N := 5) ?hd (cs := #[.int .i64 0, .int .i64 0, .slice none 0 0, .bool false]) (t := 43) ?hr ?_; (case hd => rfl); (case hg => rfl); (case hr => first | (go_simp; done) | (go_simp; rfl)); intro gb187 hg w18 hbox hb; have n0_ := am (below_step (by repeat (first | (with_reducible first | exact HB.out | apply bal | apply pdn | apply bd1) | exact HB.out)) hb); have n1_ := am (hbox); have n2_ := am ((by rw [hg]; exact (below_size (by repeat (first | (with_reducible first | exact HB.out | apply bal | apply pdn | apply bd1) | exact HB.out))) : w.heap.size ≤ gb187)); have n3_ := am ((by rw [hg]; exact (below_size (by repeat (first | (with_reducible first | exact HB.out | apply bal | apply pdn | apply bd1) | exact HB.out))) : w.heap.size ≤ gb187)); clear HB; have HB := n0_; have BK187 := n1_; have GW187 := n2_; have GE187 := n3_; clear n0_ n1_ n2_ n3_; clear hb hbox hg; have hcz19_0 : w18.cell? ⟨gb187, 0, none⟩ = some (.int .i64 0) := (kce BK187.out 0).trans rfl; have hcz19_1 : w18.cell? ⟨gb187, 1, none⟩ = some (.int .i64 0) := (kce BK187.out 1).trans rfl; have hcz19_2 : w18.cell? ⟨gb187, 2, none⟩ = some (.slice none 0 0) := (kce BK187.out 2).trans rfl; have hcz19_3 : w18.cell? ⟨gb187, 3, none⟩ = some (.bool false) := (kce BK187.out 3).trans rfl; have hfz19_0 := kfr BK187.out 0; have hfz19_1 := kfr BK187.out 1; have hfz19_2 := kfr BK187.out 2; have hfz19_3 := kfr BK187.out 3) | (go_at_call 47; (with_reducible refine (impl_between.calls ((rd_T43 l0 x8_1).f1) ((rd_T43 l0 x8_1).f0) 60 false _ A6.out).mono ?_); rintro e w' ⟨rfl, ⟨nd, rfl⟩⟩; (try first | exact ⟨rfl, _, World.drewN_drewN _ _ _⟩ | exact ⟨rfl, _, Eq.trans (World.drewN_drewN _ _ _) (congrArg (World.drewN _) (Nat.add_assoc _ _ _))⟩)))
        repeat (go_quiet (first | ((with_reducible refine gate_dst (N := 5) rfl ?_); (try (refine gate_guard (by rfl) ?_; dsimp only)); refine box_event ?hg (N := 5) ?hd (cs := #[.int .i64 0, .int .i64 0, .slice none 0 0, .bool false]) (t := 43) ?hr ?_; (case hd => rfl); (case hg => rfl); (case hr => first | (go_simp; done) | (go_simp; rfl)); intro gb187 hg w18 hbox hb; have n0_ := am (below_step (by repeat (first | (with_reducible first | exact HB.out | apply bal | apply pdn | apply bd1) | exact HB.out)) hb); have n1_ := am (hbox); have n2_ := am ((by rw [hg]; exact (below_size (by repeat (first | (with_reducible first | exact HB.out | apply bal | apply pdn | apply bd1) | exact HB.out))) : w.heap.size ≤ gb187)); have n3_ := am ((by rw [hg]; exact (below_size (by repeat (first | (with_reducible first | exact HB.out | apply bal | apply pdn | apply bd1) | exact HB.out))) : w.heap.size ≤ gb187)); clear HB; have HB := n0_; have BK187 := n1_; have GW187 := n2_; have GE187 := n3_; clear n0_ n1_ n2_ n3_; clear hb hbox hg; have hcz19_0 : w18.cell? ⟨gb187, 0, none⟩ = some (.int .i64 0) := (kce BK187.out 0).trans rfl; have hcz19_1 : w18.cell? ⟨gb187, 1, none⟩ = some (.int .i64 0) := (kce BK187.out 1).trans rfl; have hcz19_2 : w18.cell? ⟨gb187, 2, none⟩ = some (.slice none 0 0) := (kce BK187.out 2).trans rfl; have hcz19_3 : w18.cell? ⟨gb187, 3, none⟩ = some (.bool false) := (kce BK187.out 3).trans rfl; have hfz19_0 := kfr BK187.out 0; have hfz19_1 := kfr BK187.out 1; have hfz19_2 := kfr BK187.out 2; have hfz19_3 := kfr BK187.out 3) | (go_at_call 47; (with_reducible refine (impl_between.calls ((rd_T43 l0 x8_1).f1) ((rd_T43 l0 x8_1).f0) 60 false _ A6.out).mono ?_); rintro e w' ⟨rfl, ⟨nd, rfl⟩⟩; (try first | exact ⟨rfl, _, World.drewN_drewN _ _ _⟩ | exact ⟨rfl, _, Eq.trans (World.drewN_drewN _ _ _) (congrArg (World.drewN _) (Nat.add_assoc _ _ _))⟩))); try go_wp2_with (first | ((with_reducible refine gate_dst (N := 5) rfl ?_); (try (refine gate_guard (by rfl) ?_; dsimp only)); refine box_event ?hg (N := 5) ?hd (cs := #[.int .i64 0, .int .i64 0, .slice none 0 0, .bool false]) (t := 43) ?hr ?_; (case hd => rfl); (case hg => rfl); (case hr => first | (go_simp; done) | (go_simp; rfl)); intro gb187 hg w18 hbox hb; have n0_ := am (below_step (by repeat (first | (with_reducible first | exact HB.out | apply bal | apply pdn | apply bd1) | exact HB.out)) hb); have n1_ := am (hbox); have n2_ := am ((by rw [hg]; exact (below_size (by repeat (first | (with_reducible first | exact HB.out | apply bal | apply pdn | apply bd1) | exact HB.out))) : w.heap.size ≤ gb187)); have n3_ := am ((by rw [hg]; exact (below_size (by repeat (first | (with_reducible first | exact HB.out | apply bal | apply pdn | apply bd1) | exact HB.out))) : w.heap.size ≤ gb187)); clear HB; have HB := n0_; have BK187 := n1_; have GW187 := n2_; have GE187 := n3_; clear n0_ n1_ n2_ n3_; clear hb hbox hg; have hcz19_0 : w18.cell? ⟨gb187, 0, none⟩ = some (.int .i64 0) := (kce BK187.out 0).trans rfl; have hcz19_1 : w18.cell? ⟨gb187, 1, none⟩ = some (.int .i64 0) := (kce BK187.out 1).trans rfl; have hcz19_2 : w18.cell? ⟨gb187, 2, none⟩ = some (.slice none 0 0) := (kce BK187.out 2).trans rfl; have hcz19_3 : w18.cell? ⟨gb187, 3, none⟩ = some (.bool false) := (kce BK187.out 3).trans rfl; have hfz19_0 := kfr BK187.out 0; have hfz19_1 := kfr BK187.out 1; have hfz19_2 := kfr BK187.out 2; have hfz19_3 := kfr BK187.out 3) | (go_at_call 47; (with_reducible refine (impl_between.calls ((rd_T43 l0 x8_1).f1) ((rd_T43 l0 x8_1).f0) 60 false _ A6.out).mono ?_); rintro e w' ⟨rfl, ⟨nd, rfl⟩⟩; (try first | exact ⟨rfl, _, World.drewN_drewN _ _ _⟩ | exact ⟨rfl, _, Eq.trans (World.drewN_drewN _ _ _) (congrArg (World.drewN _) (Nat.add_assoc _ _ _))⟩))))
        go_ret
        exact ⟨by first | rfl | (simp [errW_none, errW_some] <;> rfl) | (simp [*, errW_none, errW_some] <;> rfl), by repeat (first | (with_reducible first | exact HB.out | apply bal | apply pdn | apply bd1 | refine bst ?_ GE187.out) | exact HB.out)⟩
      ·rw [if_neg c5] at H
       have c5b0 : (((rd_T43 l0 x8_1).f0) == x3_1) = false := beq_eq_false_iff_ne.mpr c5
       have c5b1 : (((rd_T43 l0 x8_1).f0) != x3_1) = true := bne_iff_ne.mpr c5
       obtain rfl := Option.some.inj H
       have p186 : 0 ≤ (x8_1 : Int) := of_decide_eq_true (by first | (with_reducible assumption) | assumption)
       have q186 : x8_1 < (l0.length : Int) := of_decide_eq_true (by first | (with_reducible assumption) | assumption)
       obtain ⟨ad186, A186_2, c186_2, e186, hx186_0, hx186_1, hx186_2, hx186_3, hl186_2, hi186_2⟩ := at_T43 HR0.out x8_1 p186 q186
       cases e186
       replace hx186_0 := (HB.out.cell (blc w _ hx186_0)).trans hx186_0
       replace hx186_1 := (HB.out.cell (blc w _ hx186_1)).trans hx186_1
       replace hx186_2 := (HB.out.cell (blc w _ hx186_2)).trans hx186_2
       replace hx186_3 := (HB.out.cell (blc w _ hx186_3)).trans hx186_3
       have HR186_2 := am hi186_2
       have HC186_2 := am hl186_2
       clear hi186_2 hl186_2
       replace p186 := eq_true p186
       replace q186 := eq_true q186
       go_wp2_with (first | ((with_reducible refine gate_dst (N := 5) rfl ?_); (try (refine gate_guard (by rfl) ?_; dsimp only)); refine box_event ?hg (N := 5) ?hd (cs := #[.int .i64 0, .int .i64 0, .slice none 0 0, .bool false]) (t := 43) ?hr ?_; (case hd => rfl); (case hg => rfl); (case hr => first | (go_simp; done) | (go_simp; rfl)); intro gb187 hg w20 hbox hb; have n0_ := am (below_step (by repeat (first | (with_reducible first | exact HB.out | apply bal | apply pdn | apply bd1) | exact HB.out)) hb); have n1_ := am (hbox); have n2_ := am ((by rw [hg]; exact (below_size (by repeat (first | (with_reducible first | exact HB.out | apply bal | apply pdn | apply bd1) | exact HB.out))) : w.heap.size ≤ gb187)); have n3_ := am ((by rw [hg]; exact (below_size (by repeat (first | (with_reducible first | exact HB.out | apply bal | apply pdn | apply bd1) | exact HB.out))) : w.heap.size ≤ gb187)); clear HB; have HB := n0_; have BK187 := n1_; have GW187 := n2_; have GE187 := n3_; clear n0_ n1_ n2_ n3_; clear hb hbox hg; have hcz21_0 : w20.cell? ⟨gb187, 0, none⟩ = some (.int .i64 0) := (kce BK187.out 0).trans rfl; have hcz21_1 : w20.cell? ⟨gb187, 1, none⟩ = some (.int .i64 0) := (kce BK187.out 1).trans rfl; have hcz21_2 : w20.cell? ⟨gb187, 2, none⟩ = some (.slice none 0 0) := (kce BK187.out 2).trans rfl; have hcz21_3 : w20.cell? ⟨gb187, 3, none⟩ = some (.bool false) := (kce BK187.out 3).trans rfl; have hfz21_0 := kfr BK187.out 0; have hfz21_1 := kfr BK187.out 1; have hfz21_2 := kfr BK187.out 2; have hfz21_3 := kfr BK187.out 3))
       repeat (go_quiet (first | ((with_reducible refine gate_dst (N := 5) rfl ?_); (try (refine gate_guard (by rfl) ?_; dsimp only)); refine box_event ?hg (N := 5) ?hd (cs := #[.int .i64 0, .int .i64 0, .slice none 0 0, .bool false]) (t := 43) ?hr ?_; (case hd => rfl); (case hg => rfl); (case hr => first | (go_simp; done) | (go_simp; rfl)); intro gb187 hg w20 hbox hb; have n0_ := am (below_step (by repeat (first | (with_reducible first | exact HB.out | apply bal | apply pdn | apply bd1) | exact HB.out)) hb); have n1_ := am (hbox); have n2_ := am ((by rw [hg]; exact (below_size (by repeat (first | (with_reducible first | exact HB.out | apply bal | apply pdn | apply bd1) | exact HB.out))) : w.heap.size ≤ gb187)); have n3_ := am ((by rw [hg]; exact (below_size (by repeat (first | (with_reducible first | exact HB.out | apply bal | apply pdn | apply bd1) | exact HB.out))) : w.heap.size ≤ gb187)); clear HB; have HB := n0_; have BK187 := n1_; have GW187 := n2_; have GE187 := n3_; clear n0_ n1_ n2_ n3_; clear hb hbox hg; have hcz21_0 : w20.cell? ⟨gb187, 0, none⟩ = some (.int .i64 0) := (kce BK187.out 0).trans rfl; have hcz21_1 : w20.cell? ⟨gb187, 1, none⟩ = some (.int .i64 0) := (kce BK187.out 1).trans rfl; have hcz21_2 : w20.cell? ⟨gb187, 2, none⟩ = some (.slice none 0 0) := (kce BK187.out 2).trans rfl; have hcz21_3 : w20.cell? ⟨gb187, 3, none⟩ = some (.bool false) := (kce BK187.out 3).trans rfl; have hfz21_0 := kfr BK187.out 0; have hfz21_1 := kfr BK187.out 1; have hfz21_2 := kfr BK187.out 2; have hfz21_3 := kfr BK187.out 3)); try go_wp2_with (first | ((with_reducible refine gate_dst (N := 5) rfl ?_); (try (refine gate_guard (by rfl) ?_; dsimp only)); refine box_event ?hg (N := 5) ?hd (cs := #[.int .i64 0, .int .i64 0, .slice none 0 0, .bool false]) (t := 43) ?hr ?_; (case hd => rfl); (case hg => rfl); (case hr => first | (go_simp; done) | (go_simp; rfl)); intro gb187 hg w20 hbox hb; have n0_ := am (below_step (by repeat (first | (with_reducible first | exact HB.out | apply bal | apply pdn | apply bd1) | exact HB.out)) hb); have n1_ := am (hbox); have n2_ := am ((by rw [hg]; exact (below_size (by repeat (first | (with_reducible first | exact HB.out | apply bal | apply pdn | apply bd1) | exact HB.out))) : w.heap.size ≤ gb187)); have n3_ := am ((by rw [hg]; exact (below_size (by repeat (first | (with_reducible first | exact HB.out | apply bal | apply pdn | apply bd1) | exact HB.out))) : w.heap.size ≤ gb187)); clear HB; have HB := n0_; have BK187 := n1_; have GW187 := n2_; have GE187 := n3_; clear n0_ n1_ n2_ n3_; clear hb hbox hg; have hcz21_0 : w20.cell? ⟨gb187, 0, none⟩ = some (.int .i64 0) := (kce BK187.out 0).trans rfl; have hcz21_1 : w20.cell? ⟨gb187, 1, none⟩ = some (.int .i64 0) := (kce BK187.out 1).trans rfl; have hcz21_2 : w20.cell? ⟨gb187, 2, none⟩ = some (.slice none 0 0) := (kce BK187.out 2).trans rfl; have hcz21_3 : w20.cell? ⟨gb187, 3, none⟩ = some (.bool false) := (kce BK187.out 3).trans rfl; have hfz21_0 := kfr BK187.out 0; have hfz21_1 := kfr BK187.out 1; have hfz21_2 := kfr BK187.out 2; have hfz21_3 := kfr BK187.out 3)))
       go_ret
       exact ⟨by first | rfl | (simp [errW_none, errW_some] <;> rfl) | (simp [*, errW_none, errW_some] <;> rfl), by repeat (first | (with_reducible first | exact HB.out | apply bal | apply pdn | apply bd1 | refine bst ?_ GE187.out) | exact HB.out)⟩
     ·rw [if_neg c4] at H
      exact absurd H (by simp)
    ·rw [if_neg c3] at H
     exact absurd H (by simp)
   ·rw [if_neg c2] at H
    have c2b0 : decide (x8_1 < (l0.length : Int)) = false := decide_eq_false c2
    clear c2
    obtain rfl := Option.some.inj H
    go_wp2
    repeat (go_quiet (fail); try go_wp2)
    go_ret
    exact ⟨by first | rfl | (simp [errW_none, errW_some] <;> rfl) | (simp [*, errW_none, errW_some] <;> rfl), by repeat (first | (with_reducible first | exact HB.out | apply bal | apply pdn | apply bd1) | exact HB.out)⟩

/-! ### impl_increasing: function 106 -/
def impl_increasing.l0 : Nat → List Int → Int → Option (Bool)
 | 0, _, _ => none
 | k + 1, x0, x3 => if x3 < (x0.length : Int) then (if 0 ≤ x3 then (if 0 ≤ (wrap64 (x3 - 1)) then (if (wrap64 (x3 - 1)) < (x0.length : Int) then (if (rd x0 x3) ≤ (rd x0 (wrap64 (x3 - 1))) then (some false) else (impl_increasing.l0 k x0 (wrap64 (x3 + 1)))) else (none)) else (none)) else (none)) else (some true)
def impl_increasing.f (k : Nat) (l0 : List Int) : Option (Bool) := impl_increasing.l0 k l0 1
theorem impl_increasing.mono_l : ∀ k, (∀ y0 y1, LeO (impl_increasing.l0 k y0 y1) (impl_increasing.l0 (k + 1) y0 y1))
 | 0 => fun _ _ r h => by simp [impl_increasing.l0] at h
 | k + 1 => by
  have ih0 := impl_increasing.mono_l k
  ·intro y0 y1
   unfold impl_increasing.l0
   repeat' first
   | (with_reducible exact ih0 _ _)
   | (with_reducible exact LeO.refl _)
   | (with_reducible exact LeO.none _)
   | (with_reducible refine LeO.ite ?_ ?_)
   | (with_reducible refine LeO.bind ?_ (fun _ => ?_))
   | exact ih0 _ _
   | exact LeO.none _
   | refine LeO.ite ?_ ?_
   | refine LeO.bind ?_ (fun _ => ?_)
theorem impl_increasing.mono : ∀ a0 k, LeO (impl_increasing.f k a0) (impl_increasing.f (k + 1) a0) := by
 intro a0 k
 have ih0 := impl_increasing.mono_l k
 unfold impl_increasing.f
 repeat' first
   | (with_reducible exact ih0 _ _)
   | (with_reducible exact LeO.refl _)
   | (with_reducible exact LeO.none _)
   | (with_reducible refine LeO.ite ?_ ?_)
   | (with_reducible refine LeO.bind ?_ (fun _ => ?_))
   | exact ih0 _ _
   | exact LeO.none _
   | refine LeO.ite ?_ ?_
   | refine LeO.bind ?_ (fun _ => ?_)
set_option maxHeartbeats 8000000 in
set_option maxRecDepth 100000 in
theorem impl_increasing.calls (k : Nat) (A0 : Option Addr) (c0 : Nat) (l0 : List Int) (r : Bool) (w : World) (hr0 : Kd.C (Kd.int .i64) w A0 l0.length l0) (hc0 : l0.length ≤ c0) (h : impl_increasing.f k l0 = some r) :
  Calls Try.prog 106 #[.slice A0 l0.length c0] w fun e w' => e = .returned (.bool r) ∧ Drawn0 w w' := by
 have HR0 := am hr0
 have HC0 := am hc0
 clear hr0 hc0
 have H : (impl_increasing.l0 k l0 1) = some r := h
 clear h
 have H' := am H
 clear H
 go_enter Try.func106, Try.ntmps106
 go_wp2
 repeat (go_quiet (fail); try go_wp2)
 go_loopg [3] k (fun kq v3 w' => ∃ (x3_1 : Int), v3 = .int .i64 x3_1 ∧ Aside0 (impl_increasing.l0 kq l0 x3_1 = some r) ∧ Aside0 (kq ≤ k) ∧ Drawn0 w w')
 case atStart => exact ⟨(1), (by first | rfl | (simp; done) | (simp [*]; done)), H', ⟨Nat.le_refl _⟩, by repeat (first | exact Drawn0.refl _ | apply Drawn0.step)⟩
 case round =>
  clear H'
  obtain ⟨x3_1, rfl, HA, HK1, ⟨m1, rfl⟩⟩ := hrel
  cases gk with
  | zero => exact absurd HA.out (by simp [impl_increasing.l0])
  | succ k1 =>
   have H := HA.out
   clear HA
   simp only [impl_increasing.l0] at H
   by_cases c2 : x3_1 < (l0.length : Int)
   ·rw [if_pos c2] at H
    have c2b0 : decide (x3_1 < (l0.length : Int)) = true := decide_eq_true c2
    clear c2
    by_cases c3 : 0 ≤ x3_1
    ·rw [if_pos c3] at H
     have c3b0 : decide (0 ≤ x3_1) = true := decide_eq_true c3
     clear c3
     obtain ⟨ji4, hji4⟩ : ∃ j_ : Int, (wrap64 (x3_1 - 1)) = j_ := ⟨_, rfl⟩
     replace H : (if 0 ≤ (ji4) then (if (ji4) < (l0.length : Int) then (if (rd l0 x3_1) ≤ (rd l0 (ji4)) then (some false) else (impl_increasing.l0 k1 l0 (wrap64 (x3_1 + 1)))) else (none)) else (none)) = some r := by first | (rw [hji4] at H; exact H) | (simp only [hji4] at H ⊢; exact H)
     have hji4w : (IntKind.i64.wrap (x3_1 - 1)) = ji4 := (i64_w _).trans hji4
     by_cases c5 : 0 ≤ (ji4)
     ·rw [if_pos c5] at H
      have c5b0 : decide (0 ≤ (ji4)) = true := decide_eq_true c5
      clear c5
      by_cases c6 : (ji4) < (l0.length : Int)
      ·rw [if_pos c6] at H
       have c6b0 : decide ((ji4) < (l0.length : Int)) = true := decide_eq_true c6
       clear c6
       by_cases c7 : (rd l0 x3_1) ≤ (rd l0 (ji4))
       ·rw [if_pos c7] at H
        have c7b0 : decide ((rd l0 x3_1) ≤ (rd l0 (ji4))) = true := decide_eq_true c7
        clear c7
        obtain rfl := Option.some.inj H
        have p191 : 0 ≤ (x3_1 : Int) := of_decide_eq_true (by first | (with_reducible assumption) | assumption)
        have q191 : x3_1 < (l0.length : Int) := of_decide_eq_true (by first | (with_reducible assumption) | assumption)
        obtain ⟨ad191, e191, hx191_0⟩ := Kd.at_int HR0.out x3_1 p191 q191
        cases e191
        replace p191 := eq_true p191
        replace q191 := eq_true q191
        have p192 : 0 ≤ ((ji4) : Int) := of_decide_eq_true (by first | (with_reducible assumption) | assumption)
        have q192 : (ji4) < (l0.length : Int) := of_decide_eq_true (by first | (with_reducible assumption) | assumption)
        obtain ⟨ad192, e192, hx192_0⟩ := Kd.at_int HR0.out (ji4) p192 q192
        obtain rfl : ad191 = ad192 := (by injection e192)
        replace p192 := eq_true p192
        replace q192 := eq_true q192
        go_wp2
        repeat (go_quiet (fail); try go_wp2)
        go_ret
        exact ⟨by first | rfl | (simp; done) | (simp only [← hji4] <;> (first | rfl | simp)) | (simp [*]; done), by repeat (first | exact Drawn0.refl _ | apply Drawn0.step)⟩
       ·rw [if_neg c7] at H
        have c7b0 : decide ((rd l0 x3_1) ≤ (rd l0 (ji4))) = false := decide_eq_false c7
        clear c7
        have H' := am H
        clear H
        have p191 : 0 ≤ (x3_1 : Int) := of_decide_eq_true (by first | (with_reducible assumption) | assumption)
        have q191 : x3_1 < (l0.length : Int) := of_decide_eq_true (by first | (with_reducible assumption) | assumption)
        obtain ⟨ad191, e191, hx191_0⟩ := Kd.at_int HR0.out x3_1 p191 q191
        cases e191
        replace p191 := eq_true p191
        replace q191 := eq_true q191
        have p192 : 0 ≤ ((ji4) : Int) := of_decide_eq_true (by first | (with_reducible assumption) | assumption)
        have q192 : (ji4) < (l0.length : Int) := of_decide_eq_true (by first | (with_reducible assumption) | assumption)
        obtain ⟨ad192, e192, hx192_0⟩ := Kd.at_int HR0.out (ji4) p192 q192
        obtain rfl : ad191 = ad192 := (by injection e192)
        replace p192 := eq_true p192
        replace q192 := eq_true q192
        go_wp2
        repeat (go_quiet (fail); try go_wp2)
        go_roundg k1
        case measure => have := HK1.out; omega
        case rel => exact ⟨(wrap64 (x3_1 + 1)), (by first | rfl | (simp; done) | (simp [*]; done)), H', ⟨by have := HK1.out; omega⟩, by repeat (first | exact Drawn0.refl _ | apply Drawn0.step)⟩
      ·rw [if_neg c6] at H
       exact absurd H (by simp)
     ·rw [if_neg c5] at H
      exact absurd H (by simp)
    ·rw [if_neg c3] at H
     exact absurd H (by simp)
   ·rw [if_neg c2] at H
    have c2b0 : decide (x3_1 < (l0.length : Int)) = false := decide_eq_false c2
    clear c2
    obtain rfl := Option.some.inj H
    go_wp2
    repeat (go_quiet (fail); try go_wp2)
    go_ret
    exact ⟨by first | rfl | (simp; done) | (simp [*]; done), by repeat (first | exact Drawn0.refl _ | apply Drawn0.step)⟩

/-! ### impl_allBetween: function 107 -/
set_option maxHeartbeats 2000000 in
/-- slices.IndexFunc over whole numbers, with the function 118 (captured: two bounds). -/
theorem impl_allBetween.index (b1 b2 : Addr) (p : Int → Bool) (A0 : Option Addr) (c0 : Nat) (l0 : List Int) (w : World) (hr0 : Kd.C (Kd.int .i64) w A0 l0.length l0)
  (hp : ∀ (W : World) (x : Int), Below w.heap.size w W → Calls Try.prog 118 #[.int .i64 x, .pointer (some b1), .pointer (some b2)] W fun e w' => e = .returned (.bool (p x)) ∧ Below w.heap.size w w') :
  Calls Try.prog 75 #[.slice A0 l0.length c0, .func (.func 118) #[] #[.pointer (some b1), .pointer (some b2)]] w fun e w' => e = .returned (.int .i64 (idxP p l0 0)) ∧ Below w.heap.size w w' := by
 have HR0 := am hr0
 have HP := am hp
 have hm : l0.length ≤ 9223372036854775807 := hr0.2.1
 clear hr0 hp
 go_enter Try.func75, Try.ntmps75
 go_wp2
 go_loopg [5, 8] l0.length (fun gg _ s8 wr => ∃ kk : Nat, kk ≤ l0.length ∧ l0.length - kk ≤ gg ∧ s8 = .int .i64 kk ∧ Aside0 (Below w.heap.size w wr) ∧ Aside0 (idxP p l0 0 = idxP p (l0.drop kk) kk))
 case atStart => exact ⟨0, Nat.zero_le _, by omega, rfl, ⟨Below.refl _ w⟩, ⟨rfl⟩⟩
 case round =>
  obtain ⟨kk, hkk, hg, rfl, BW, AI⟩ := hrel
  by_cases hlt : kk < l0.length
  ·have hltz : (kk : Int) < (l0.length : Int) := by omega
   obtain ⟨ad, e, hx⟩ := Kd.at_int HR0.out (kk : Int) (by omega) hltz
   cases e
   rw [Int.toNat_natCast] at hx
   replace hx := (BW.out.cell (blc w _ hx)).trans hx
   have hcall := HP.out wr (rd l0 (kk : Int)) BW.out
   have HD := am (idxP_drop p l0 kk hlt)
   have HE := am (rd_at0 hlt)
   generalize rd l0 (kk : Int) = y at hx hcall HE
   cases hq : p y with
   | true =>
    rw [hq] at hcall
    have HQ := am hq
    clear hq
    go_wp2_with (go_at_call 118; refine hcall.mono ?_; rintro e w' ⟨rfl, hb'⟩)
    go_ret
    refine ⟨?_, hb'⟩
    rw [AI.out, HD.out, ← HE.out, if_pos HQ.out]
    rfl
   | false =>
    rw [hq] at hcall
    have HQ := am hq
    clear hq
    go_wp2_with (go_at_call 118; refine hcall.mono ?_; rintro e w' ⟨rfl, hb'⟩)
    go_roundg (l0.length - (kk + 1))
    case measure => omega
    case rel => exact ⟨kk + 1, by omega, by omega, by go_num, ⟨hb'⟩, ⟨by rw [AI.out, HD.out, ← HE.out, HQ.out]; rfl⟩⟩
  ·have hltz : ¬ (kk : Int) < (l0.length : Int) := by omega
   go_wp2
   go_ret
   refine ⟨?_, BW.out⟩
   rw [AI.out, List.drop_of_length_le (by omega)]
   rfl
set_option maxHeartbeats 2000000 in
/-- slices.ContainsFunc over whole numbers, with the function 118. -/
theorem impl_allBetween.contains (b1 b2 : Addr) (p : Int → Bool) (A0 : Option Addr) (c0 : Nat) (l0 : List Int) (w : World) (hr0 : Kd.C (Kd.int .i64) w A0 l0.length l0)
  (hp : ∀ (W : World) (x : Int), Below w.heap.size w W → Calls Try.prog 118 #[.int .i64 x, .pointer (some b1), .pointer (some b2)] W fun e w' => e = .returned (.bool (p x)) ∧ Below w.heap.size w w') :
  Calls Try.prog 117 #[.slice A0 l0.length c0, .func (.func 118) #[] #[.pointer (some b1), .pointer (some b2)]] w fun e w' => e = .returned (.bool (l0.any p)) ∧ Below w.heap.size w w' := by
 have HI := impl_allBetween.index b1 b2 p A0 c0 l0 w hr0 hp
 have HQ := am (idxP_dec p l0)
 clear hr0 hp
 generalize idxP p l0 0 = q at HI HQ
 generalize l0.any p = b at HQ
 go_enter Try.func117, Try.ntmps117
 go_wp2_with (go_at_call 75; refine HI.mono ?_; rintro e w' ⟨rfl, hb⟩)
 go_ret
 exact ⟨by rw [← HQ.out]; rfl, hb⟩
def impl_allBetween.f (l0 : List Int) (a1 : Int) (a2 : Int) : Option (Bool) := some (!l0.any fun n => !decide (a1 ≤ n ∧ n ≤ a2))
theorem impl_allBetween.btw (a b c : Int) : impl_between.f a b c = some (decide (b ≤ a ∧ a ≤ c)) := by
 unfold impl_between.f
 by_cases h : a ≥ b
 ·have h' : b ≤ a := h
  simp [h, h']
 ·have h' : ¬ b ≤ a := h
  simp [h, h']
set_option maxHeartbeats 2000000 in
theorem impl_allBetween.pred (x lo hi : Int) (b1 b2 : Addr) (W : World) (h1 : W.cell? b1 = some (.int .i64 lo)) (h2 : W.cell? b2 = some (.int .i64 hi)) :
  Calls Try.prog 118 #[.int .i64 x, .pointer (some b1), .pointer (some b2)] W fun e w' => e = .returned (.bool (!decide (lo ≤ x ∧ x ≤ hi))) ∧ Drawn0 W w' := by
 have HB := impl_between.calls x lo hi (decide (lo ≤ x ∧ x ≤ hi))
 have HT := am (impl_allBetween.btw x lo hi)
 generalize decide (lo ≤ x ∧ x ≤ hi) = b at HB HT
 go_enter Try.func118, Try.ntmps118
 go_wp2_with (go_at_call 47; refine (HB _ HT.out).mono ?_; rintro e w' ⟨rfl, hd⟩)
 go_ret
 exact ⟨rfl, hd⟩
set_option maxHeartbeats 2000000 in
theorem impl_allBetween.calls (A0 : Option Addr) (c0 : Nat) (l0 : List Int) (a1 : Int) (a2 : Int) (r : Bool) (w : World) (hr0 : Kd.C (Kd.int .i64) w A0 l0.length l0) (hc0 : l0.length ≤ c0) (h : impl_allBetween.f l0 a1 a2 = some r) :
  Calls Try.prog 107 #[.slice A0 l0.length c0, .int .i64 a1, .int .i64 a2] w fun e w' => e = .returned (.bool r) ∧ Below w.heap.size w w' := by
 obtain rfl := Option.some.inj h
 clear h
 have hB : Below w.heap.size w ((w.alloc (.cells #[.int .i64 a1] 2)).alloc (.cells #[.int .i64 a2] 2)) := ((Below.refl _ _).alloc (Nat.le_refl _) _).alloc (by simp) _
 have HI := impl_allBetween.contains ⟨w.heap.size, 0, none⟩ ⟨w.heap.size + 1, 0, none⟩ (fun n => !decide (a1 ≤ n ∧ n ≤ a2)) A0 c0 l0 ((w.alloc (.cells #[.int .i64 a1] 2)).alloc (.cells #[.int .i64 a2] 2)) (Kd.C_below hr0 hB) (fun W x hb => by
  refine (impl_allBetween.pred x a1 a2 _ _ W ?_ ?_).mono fun e w' ⟨he, hw⟩ => ⟨he, hb.trans (hw.below.mono hb.size)⟩
  ·rw [hb.cell (by simp <;> omega)]; simp
  ·rw [hb.cell (by simp <;> omega)]; simp)
 generalize (l0.any fun n => !decide (a1 ≤ n ∧ n ≤ a2)) = b at HI
 clear hr0 hc0
 have HBB := am hB
 clear hB
 go_enter Try.func107, Try.ntmps107
 go_wp2_with (go_at_call 117; refine HI.mono ?_; rintro e w' ⟨rfl, hb⟩)
 go_ret
 exact ⟨rfl, HBB.out.trans (hb.mono HBB.out.size)⟩

/-! ### impl_outOk: function 82 -/
def impl_outOk.f (k : Nat) (l0 : List Int) : Option (Bool) := (impl_increasing.f k l0).bind fun t193 => (if t193 = true then ((impl_allBetween.f l0 0 15).bind fun t194 => (some t194)) else (some false))
theorem impl_outOk.mono : ∀ a0 k, LeO (impl_outOk.f k a0) (impl_outOk.f (k + 1) a0) := by
 intro a0 k
 unfold impl_outOk.f
 repeat' first
   | (with_reducible exact impl_increasing.mono _ _)
   | (with_reducible exact LeO.refl _)
   | (with_reducible exact LeO.none _)
   | (with_reducible refine LeO.ite ?_ ?_)
   | (with_reducible refine LeO.bind ?_ (fun _ => ?_))
   | exact impl_increasing.mono _ _
   | exact LeO.none _
   | refine LeO.ite ?_ ?_
   | refine LeO.bind ?_ (fun _ => ?_)
set_option maxHeartbeats 8000000 in
set_option maxRecDepth 100000 in
theorem impl_outOk.calls (k : Nat) (A0 : Option Addr) (c0 : Nat) (l0 : List Int) (r : Bool) (w : World) (hr0 : Kd.C (Kd.int .i64) w A0 l0.length l0) (hc0 : l0.length ≤ c0) (h : impl_outOk.f k l0 = some r) :
  Calls Try.prog 82 #[.slice A0 l0.length c0] w fun e w' => e = .returned (.bool r) ∧ Below w.heap.size w w' := by
 have HR0 := am hr0
 have HC0 := am hc0
 clear hr0 hc0
 have HB := am (Below.refl w.heap.size w)
 have H : ((impl_increasing.f k l0).bind fun t193 => (if t193 = true then ((impl_allBetween.f l0 0 15).bind fun t194 => (some t194)) else (some false))) = some r := h
 clear h
 replace H := Option.bind_eq_some_iff.mp H
 obtain ⟨t193, A20, H⟩ := H
 replace H : (if t193 = true then ((impl_allBetween.f l0 0 15).bind fun t194 => (some t194)) else (some false)) = some r := H
 have A2 := am A20
 clear A20
 by_cases c3 : t193 = true
 ·subst c3
  have H1 : ((impl_allBetween.f l0 0 15).bind fun t194 => (some t194)) = some r := by rw [if_pos rfl] at H; exact H
  clear H
  have H := H1
  clear H1
  replace H := Option.bind_eq_some_iff.mp H
  obtain ⟨t194, A40, H⟩ := H
  replace H : (some t194) = some r := H
  have A4 := am A40
  clear A40
  obtain rfl := Option.some.inj H
  go_enter Try.func82, Try.ntmps82
  go_wp2_with (first | ((with_reducible refine gate_callee (f := 106) rfl ?_); refine goesL_ (some 4) rfl rfl Try.func106 (by kernel_rfl) rfl #[.slice A0 l0.length c0] rfl (by (try simp only [mta, mco, mni]); first | done | rfl | (simp only [lnd, lnt]; rfl)) ?_; (with_reducible refine (impl_increasing.calls k _ _ l0 true _ ?side1 ?side2 A2.out).mono ?_); (case side1 => repeat (first | exact HR0.out | (with_reducible first | apply kca | apply kcn | apply kcd))); (case side2 => exact HC0.out); rintro e w' ⟨rfl, ⟨nd, rfl⟩⟩; refine ⟨_, rfl, ?_⟩) | (go_at_call 107; (with_reducible refine (impl_allBetween.calls _ _ l0 0 15 t194 _ ?side1 ?side2 A4.out).mono ?_); (case side1 => repeat (first | exact HR0.out | (with_reducible first | apply kca | apply kcn | apply kcd))); (case side2 => exact HC0.out); rintro e w5 ⟨rfl, hb⟩; have n0_ := am (below_step (by repeat (first | (with_reducible first | exact HB.out | apply bal | apply pdn | apply bd1) | exact HB.out)) hb); clear HB; have HB := n0_; clear n0_; (try clear hb); (try clear hb2); (try clear hk); (try clear hi)))
  go_ret
  exact ⟨by first | rfl | (simp [errW_none, errW_some] <;> rfl) | (simp [*, errW_none, errW_some] <;> rfl), by repeat (first | (with_reducible first | exact HB.out | apply bal | apply pdn | apply bd1) | exact HB.out)⟩
 ·replace c3 := Bool.eq_false_iff.mpr c3
  subst c3
  have H1 : (some false) = some r := by rw [if_neg (show ¬ (false = true) by decide)] at H; exact H
  clear H
  have H := H1
  clear H1
  obtain rfl := Option.some.inj H
  go_enter Try.func82, Try.ntmps82
  go_wp2_with (first | ((with_reducible refine gate_callee (f := 106) rfl ?_); refine goesL_ (some 4) rfl rfl Try.func106 (by kernel_rfl) rfl #[.slice A0 l0.length c0] rfl (by (try simp only [mta, mco, mni]); first | done | rfl | (simp only [lnd, lnt]; rfl)) ?_; (with_reducible refine (impl_increasing.calls k _ _ l0 false _ ?side1 ?side2 A2.out).mono ?_); (case side1 => repeat (first | exact HR0.out | (with_reducible first | apply kca | apply kcn | apply kcd))); (case side2 => exact HC0.out); rintro e w' ⟨rfl, ⟨nd, rfl⟩⟩; refine ⟨_, rfl, ?_⟩))
  go_ret
  exact ⟨by first | rfl | (simp [errW_none, errW_some] <;> rfl) | (simp [*, errW_none, errW_some] <;> rfl), by repeat (first | (with_reducible first | exact HB.out | apply bal | apply pdn | apply bd1) | exact HB.out)⟩

/-! ### impl_heardOk: function 63 -/
def impl_heardOk.f (k : Nat) (l0 : List Int) : Option (Bool) := (impl_outOk.f k l0).bind fun t195 => (some t195)
theorem impl_heardOk.mono : ∀ a0 k, LeO (impl_heardOk.f k a0) (impl_heardOk.f (k + 1) a0) := by
 intro a0 k
 unfold impl_heardOk.f
 repeat' first
   | (with_reducible exact impl_outOk.mono _ _)
   | (with_reducible exact LeO.refl _)
   | (with_reducible exact LeO.none _)
   | (with_reducible refine LeO.ite ?_ ?_)
   | (with_reducible refine LeO.bind ?_ (fun _ => ?_))
   | exact impl_outOk.mono _ _
   | exact LeO.none _
   | refine LeO.ite ?_ ?_
   | refine LeO.bind ?_ (fun _ => ?_)
set_option maxHeartbeats 8000000 in
set_option maxRecDepth 100000 in
theorem impl_heardOk.calls (k : Nat) (A0 : Option Addr) (c0 : Nat) (l0 : List Int) (r : Bool) (w : World) (hr0 : Kd.C (Kd.int .i64) w A0 l0.length l0) (hc0 : l0.length ≤ c0) (h : impl_heardOk.f k l0 = some r) :
  Calls Try.prog 63 #[.slice A0 l0.length c0] w fun e w' => e = .returned (.bool r) ∧ Below w.heap.size w w' := by
 have HR0 := am hr0
 have HC0 := am hc0
 clear hr0 hc0
 have HB := am (Below.refl w.heap.size w)
 have H : ((impl_outOk.f k l0).bind fun t195 => (some t195)) = some r := h
 clear h
 replace H := Option.bind_eq_some_iff.mp H
 obtain ⟨t195, A20, H⟩ := H
 replace H : (some t195) = some r := H
 have A2 := am A20
 clear A20
 obtain rfl := Option.some.inj H
 go_enter Try.func63, Try.ntmps63
 go_wp2_with (first | ((with_reducible refine gate_callee (f := 82) rfl ?_); refine goesL_ (some 4) rfl rfl Try.func82 (by kernel_rfl) rfl #[.slice A0 l0.length c0] rfl (by (try simp only [mta, mco, mni]); first | done | rfl | (simp only [lnd, lnt]; rfl)) ?_; (with_reducible refine (impl_outOk.calls k _ _ l0 t195 _ ?side1 ?side2 A2.out).mono ?_); (case side1 => repeat (first | exact HR0.out | (with_reducible first | apply kca | apply kcn | apply kcd))); (case side2 => exact HC0.out); rintro e w3 ⟨rfl, hb⟩; refine ⟨_, rfl, ?_⟩; have n0_ := am (below_step (by repeat (first | (with_reducible first | exact HB.out | apply bal | apply pdn | apply bd1) | exact HB.out)) hb); clear HB; have HB := n0_; clear n0_; (try clear hb); (try clear hb2); (try clear hk); (try clear hi)))
 go_ret
 exact ⟨by first | rfl | (simp [errW_none, errW_some] <;> rfl) | (simp [*, errW_none, errW_some] <;> rfl), by repeat (first | (with_reducible first | exact HB.out | apply bal | apply pdn | apply bd1) | exact HB.out)⟩

/-! ### slices_Clone_int64_int64: function 93 -/
def slices_Clone_int64_int64.f (l0 : List Int) : Option (List Int) := if l0.length < 17592186044416 then some l0 else none
set_option maxHeartbeats 8000000 in
set_option maxRecDepth 100000 in
theorem slices_Clone_int64_int64.calls (A0 : Option Addr) (c0 : Nat) (l0 : List Int) (r : List Int) (w : World) (hr0 : Kd.C (Kd.int .i64) w A0 l0.length l0) (hc0 : l0.length ≤ c0) (h : slices_Clone_int64_int64.f l0 = some r) :
  Calls Try.prog 93 #[.slice A0 l0.length c0] w fun e w' => ∃ v0_ : Value, e = .returned (v0_) ∧ Kd.R (Kd.int .i64) 2 w' w.heap.size (fun _ => True) v0_ r ∧ Below w.heap.size w w' := by
 have c2 : l0.length < 17592186044416 := by
  by_cases c2 : l0.length < 17592186044416
  ·exact c2
  ·rw [slices_Clone_int64_int64.f, if_neg c2] at h; exact absurd h (by simp)
 rw [slices_Clone_int64_int64.f, if_pos c2] at h
 obtain rfl := Option.some.inj h
 clear h
 have q22 : ∀ (w : World) (a : Option Addr) (n c n' c' : Nat), (binOp .eql 22 (.slice a n c) (.slice none n' c')).run Try.prog w = .ok (.bool a.isNone) w := fun w a n c n' c' => Lib.run_eql_slice_nil w _ _ a n c n' c' Try.underlying22
 cases A0 with
 | none =>
  have hz : l0 = [] := by
   cases l0 with
   | nil => rfl
   | cons x xs =>
    obtain ⟨ad, hA, _⟩ := hr0.2.2 (by simp)
    cases hA
  subst hz
  clear hr0 hc0 c2
  go_enter Try.func93, Try.ntmps93
  go_wp2
  go_ret
  exact ⟨_, rfl, Kd.R_nil _ _ _ _ _, Below.refl _ _⟩
 | some A =>
  have HR0 := am hr0
  have HC0 := am hc0
  clear hr0 hc0
  have LMc2 := am c2
  clear c2
  have HB := am (Below.refl w.heap.size w)
  go_enter Try.func93, Try.ntmps93
  go_wp2_with (first | ((with_reducible refine gate_dst (N := 5) rfl ?_); refine Kd.R_lit (Kd.int .i64) _ 2 ?hg (N := 5) ?hd (xs := ([] : List Int)) (inner := []) (ok := fun _ => True) (okp := fun _ => True) ?hr ?hp (fun _ hk => hk) trivial (Below.refl _ _) (Nat.le_refl _) (by simp) ?_; (case hd => rfl); (case hg => rfl); (case hr => first | (go_simp; done) | (go_simp; rfl)); (case hp => exact (Reps.none _ _)); intro v351 w3 ho4 hb hg_ hnew_; clear hg_ hnew_; have n0_ := am (Kd.R_lower ho4 (below_size HB.out)); have n1_ := am (below_step HB.out hb); clear HB; have HO352 := n0_; have HB := n1_; clear n0_ n1_; clear hb ho4) | ((with_reducible refine gate_builtin (b := .append) (xs := #[.tmp 5, .tmp 6]) rfl ?_); at_builtin; refine Kd.R_append_rows (Kd.int .i64) (w0 := w) w.heap.size rfl (.tmp 5) (.tmp 6) 22 2 (.int .i64 0) 8 rfl Try.underlying22 info2 rfl (by decide) (by omega) v351 [] l0 _ _ _ (fun _ => True) (fun _ => False) rfl rfl ?aO ?aR (fun _ _ h => h) (fun _ h => h.elim) ?aF ?aB ?aS ?aL ?_; (case aR => exact (Kd.C_below HR0.out HB.out)); (case aB => exact HB.out); (case aF => exact (fun _ _ => trivial)); (case aO => exact HO352.out); (case aS => exact (below_size HB.out)); (case aL => have := LMc2.out; simp only [List.length_nil]; omega); intro v354 w5 ho hb hg hat; have n0_ := am (hb); have n1_ := am (ho); clear HB; clear HO352; have HB := n0_; have HO355 := n1_; clear n0_ n1_; clear ho hb hg hat))
  go_ret
  exact ⟨_, rfl, by simpa using HO355.out, HB.out⟩

/-! ### impl_removed: function 77 -/
open Go.Shelf Go.Lib Go.Sort in
shelf_lay_g SlLaysH.n10 Slgf 10 at Try 83 as impl_removed_lay
set_option maxHeartbeats 2000000 in
/-- slices.IndexFunc over whole numbers, with the function 94 (captured: the number). -/
theorem impl_removed.index (b1 : Addr) (p : Int → Bool) (A0 : Option Addr) (c0 : Nat) (l0 : List Int) (w : World) (hr0 : Kd.C (Kd.int .i64) w A0 l0.length l0)
  (hp : ∀ (W : World) (x : Int), Below w.heap.size w W → Calls Try.prog 94 #[.int .i64 x, .pointer (some b1)] W fun e w' => e = .returned (.bool (p x)) ∧ Below w.heap.size w w') :
  Calls Try.prog 75 #[.slice A0 l0.length c0, .func (.func 94) #[] #[.pointer (some b1)]] w fun e w' => e = .returned (.int .i64 (idxP p l0 0)) ∧ Below w.heap.size w w' := by
 have HR0 := am hr0
 have HP := am hp
 have hm : l0.length ≤ 9223372036854775807 := hr0.2.1
 clear hr0 hp
 go_enter Try.func75, Try.ntmps75
 go_wp2
 go_loopg [5, 8] l0.length (fun gg _ s8 wr => ∃ kk : Nat, kk ≤ l0.length ∧ l0.length - kk ≤ gg ∧ s8 = .int .i64 kk ∧ Aside0 (Below w.heap.size w wr) ∧ Aside0 (idxP p l0 0 = idxP p (l0.drop kk) kk))
 case atStart => exact ⟨0, Nat.zero_le _, by omega, rfl, ⟨Below.refl _ w⟩, ⟨rfl⟩⟩
 case round =>
  obtain ⟨kk, hkk, hg, rfl, BW, AI⟩ := hrel
  by_cases hlt : kk < l0.length
  ·have hltz : (kk : Int) < (l0.length : Int) := by omega
   obtain ⟨ad, e, hx⟩ := Kd.at_int HR0.out (kk : Int) (by omega) hltz
   cases e
   rw [Int.toNat_natCast] at hx
   replace hx := (BW.out.cell (blc w _ hx)).trans hx
   have hcall := HP.out wr (rd l0 (kk : Int)) BW.out
   have HD := am (idxP_drop p l0 kk hlt)
   have HE := am (rd_at0 hlt)
   generalize rd l0 (kk : Int) = y at hx hcall HE
   cases hq : p y with
   | true =>
    rw [hq] at hcall
    have HQ := am hq
    clear hq
    go_wp2_with (go_at_call 94; refine hcall.mono ?_; rintro e w' ⟨rfl, hb'⟩)
    go_ret
    refine ⟨?_, hb'⟩
    rw [AI.out, HD.out, ← HE.out, if_pos HQ.out]
    rfl
   | false =>
    rw [hq] at hcall
    have HQ := am hq
    clear hq
    go_wp2_with (go_at_call 94; refine hcall.mono ?_; rintro e w' ⟨rfl, hb'⟩)
    go_roundg (l0.length - (kk + 1))
    case measure => omega
    case rel => exact ⟨kk + 1, by omega, by omega, by go_num, ⟨hb'⟩, ⟨by rw [AI.out, HD.out, ← HE.out, HQ.out]; rfl⟩⟩
  ·have hltz : ¬ (kk : Int) < (l0.length : Int) := by omega
   go_wp2
   go_ret
   refine ⟨?_, BW.out⟩
   rw [AI.out, List.drop_of_length_le (by omega)]
   rfl
def impl_removed.f (l0 : List Int) (a1 : Int) : Option (List Int) := if l0.length < 17592186044416 then some (l0.filter fun x => !decide (x = a1)) else none
theorem impl_removed.gives (n x : Int) (b : Addr) (W : World) (hc : W.cell? b = some (.int .i64 n)) :
  FnGives Try.prog 94 #[.pointer (some b)] #[.int .i64 x] (.bool (decide (x = n))) W := by
 show Calls Try.prog 94 #[.int .i64 x, .pointer (some b)] W _
 go_enter Try.func94, Try.ntmps94
 go_wp2
 all_goals (go_ret; exact ⟨by rw [show (decide (x = n)) = (x == n) from by simp [BEq.beq]]; first | rfl | simp_all, 0, rfl⟩)
set_option maxHeartbeats 2000000 in
theorem impl_removed.delNil (a1 : Int) (b : Addr) (w : World) (hc : w.cell? b = some (.int .i64 a1)) :
  Calls Try.prog 83 #[.slice none 0 0, .func (.func 94) #[] #[.pointer (some b)]] w fun e w' => e = .returned (.slice none 0 0) ∧ Below w.heap.size w w' := by
 have HI := impl_removed.index b (fun x => decide (x = a1)) none 0 [] w (Kd.C_nil _ _) (fun W x hb => by
  have hg := impl_removed.gives a1 x b W ((hb.cell (blc w _ hc)).trans hc)
  exact Calls.mono hg fun e w' ⟨he, q, hw⟩ => ⟨he, hw ▸ below_drewN' hb q⟩)
 replace HI : Calls Try.prog 75 #[.slice none 0 0, .func (.func 94) #[] #[.pointer (some b)]] w fun e w' => e = .returned (.int .i64 (-1)) ∧ Below w.heap.size w w' := HI
 clear hc
 go_enter Try.func83, Try.ntmps83
 go_wp2_with (go_at_call 75; refine HI.mono ?_; rintro e w' ⟨rfl, hb⟩)
 go_ret
 exact ⟨rfl, hb⟩
theorem impl_removed.row {w : World} {base g cap q : Nat} {e : TypeId} {cur : Array Value} {n : Nat} {ss ts : List Int} (hl : (ts ++ ss).length = n) (hbase : base ≤ g) (hb : w.heap[g]? = some (.cells cur e (0, 0)))
  (h1 : n ≤ cap) (h2 : cap ≤ maxLen) (h3 : cur.size = cap * 1) :
  (Go.Sort.putRow (Value.int .i64) (Go.Sort.ahead w q) g 0 (ts ++ ss).toArray).ownsRow base e 1 (.slice (some ⟨g, 0, none⟩) ts.length cap) ts.length (encs (Value.int .i64) ts) := by
 have hh := heap_sortedI (n := q) (os := #[]) (ts ++ ss).toArray hb
 rw [Go.Sort.grow_empty] at hh
 refine ⟨by simp [encs], .inr ⟨g, cap, _, rfl, hbase, hh, by simp at hl; omega, h2, by simp [Go.Sort.putCells, h3], ?_⟩⟩
 have ht := take_putCellsI cur (ts ++ ss) (by omega)
 have ht2 := congrArg (List.take ts.length) ht
 rw [List.take_take, Nat.min_eq_left (by simp), List.map_append, List.take_append_of_le_length (by simp), show List.take ts.length (List.map (Value.int .i64) ts) = List.map (Value.int .i64) ts from List.take_of_length_le (by simp)] at ht2
 rw [Nat.mul_one]
 exact ht2
theorem impl_removed.del (a1 : Int) (b : Addr) (l0 : List Int) (v : Value) (base : Nat) (w2 : World) (hB : b.block < base) (hbs : base ≤ w2.heap.size) (hcell : w2.cell? b = some (.int .i64 a1)) (hR : Kd.R (Kd.int .i64) 2 w2 base (fun _ => True) v l0) :
  Calls Try.prog 83 #[v, .func (.func 94) #[] #[.pointer (some b)]] w2 fun e w3 => ∃ v3 : Value, e = .returned v3 ∧ Kd.R (Kd.int .i64) 2 w3 base (fun _ => True) v3 (l0.filter fun x => !decide (x = a1)) ∧ Below base w2 w3 := by
 have hown := Kd.own_of_R hR
 have hbl := blc w2 _ hcell
 rcases hown.2 with ⟨rfl, hx⟩ | ⟨g, cap, cur, rfl, hbase, hb, h1, h2, h3, h4⟩
 ·have hz : l0 = [] := by
   obtain ⟨A, c, he, _⟩ := Kd.R_reads hR
   injection he with _ hn
   exact List.length_eq_zero_iff.1 hn.symm
  subst hz
  refine (impl_removed.delNil a1 b w2 hcell).mono fun e w3 ⟨he, hb⟩ => ⟨_, he, Kd.R_nil _ _ _ _ _, hb.mono hbs⟩
 ·have eg : ∀ args w, (callFunc 94 args).run Try.prog w = .ok (.enter 94 args) w := enters_of Try.func94 (by kernel_rfl) rfl
  have hgs : g < w2.heap.size := (Array.getElem?_eq_some_iff.1 hb).1
  have hH : Go.Sort.Holds (Value.int .i64) w2 g 0 l0.toArray := holds_of_blockI hb (by simpa [encs] using h4)
  have hcon := AnyE.slices_DeleteFunc impl_removed_lay (Value.int .i64) (fun _ => rfl) (fun x => decide (x = a1)) 94 #[.pointer (some b)] eg 0 Try.zeroValue2 g 0 cap l0.toArray w2
   (fun W x hb' => impl_removed.gives a1 x b W ((hb'.cell hbl).trans hcell))
   (fun n os dk x _ => impl_removed.gives a1 x b _ (by
    unfold sortWorld
    rw [Go.Sort.cell?_grow _ _ _ (by show b.block < (Go.Sort.putRow _ _ _ _ _).heap.size; rw [Go.Sort.size_putRow]; exact hbl), Go.Sort.cell?_putRow_other _ _ g 0 _ _ (Or.inl (by omega))]
    exact hcell)) hH (by have hq : maxLen ≤ 9223372036854775807 := (by unfold maxLen; omega); simp; omega) (by simpa using h1)
  change Calls Try.prog 83 _ _ _ at hcon
  refine hcon.mono ?_
  rintro e w3 ⟨rfl, q, rfl⟩
  have hfl : (l0.filter fun x => !decide (x = a1)).length ≤ l0.length := List.length_filter_le _ _
  refine ⟨_, rfl, Kd.R_of_own ?_ (fun _ _ => trivial), ?_⟩
  ·exact impl_removed.row (n := l0.length) (by simp; omega) hbase hb h1 h2 h3
  ·have hg := grownBy_sortedI (w := w2) (g := g) (n := q) (os := #[]) ((l0.filter fun x => !decide (x = a1)) ++ List.replicate (l0.toArray.size - (l0.filter fun x => !decide (x = a1)).length) 0).toArray
   rw [Go.Sort.grow_empty] at hg
   exact Below.grown (Below.refl _ _) hg hbs (by intro k hk; cases hk; exact hbase)
set_option maxHeartbeats 2000000 in
theorem impl_removed.calls (A0 : Option Addr) (c0 : Nat) (l0 : List Int) (a1 : Int) (r : List Int) (w : World) (hr0 : Kd.C (Kd.int .i64) w A0 l0.length l0) (hc0 : l0.length ≤ c0) (h : impl_removed.f l0 a1 = some r) :
  Calls Try.prog 77 #[.slice A0 l0.length c0, .int .i64 a1] w fun e w' => ∃ v0_ : Value, e = .returned (v0_) ∧ Kd.R (Kd.int .i64) 2 w' w.heap.size (fun _ => True) v0_ r ∧ Below w.heap.size w w' := by
 have c2 : l0.length < 17592186044416 := by
  by_cases c2 : l0.length < 17592186044416
  ·exact c2
  ·rw [impl_removed.f, if_neg c2] at h; exact absurd h (by simp)
 rw [impl_removed.f, if_pos c2] at h
 obtain rfl := Option.some.inj h
 clear h
 have hB : Below w.heap.size w (w.alloc (.cells #[.int .i64 a1] 2)) := (Below.refl _ _).alloc (Nat.le_refl _) _
 have hsz : (w.alloc (.cells #[.int .i64 a1] 2)).heap.size = w.heap.size + 1 := by simp
 have HC := slices_Clone_int64_int64.calls A0 c0 l0 l0 (w.alloc (.cells #[.int .i64 a1] 2)) (Kd.C_below hr0 hB) hc0 (by rw [slices_Clone_int64_int64.f, if_pos c2])
 have HD : ∀ (v : Value) (w2 : World), Kd.R (Kd.int .i64) 2 w2 (w.alloc (.cells #[.int .i64 a1] 2)).heap.size (fun _ => True) v l0 → Below (w.alloc (.cells #[.int .i64 a1] 2)).heap.size (w.alloc (.cells #[.int .i64 a1] 2)) w2 →
   Calls Try.prog 83 #[v, .func (.func 94) #[] #[.pointer (some ⟨w.heap.size, 0, none⟩)]] w2 fun e w3 => ∃ v3 : Value, e = .returned v3 ∧ Kd.R (Kd.int .i64) 2 w3 w.heap.size (fun _ => True) v3 (l0.filter fun x => !decide (x = a1)) ∧ Below w.heap.size w w3 := by
  intro v w2 hR hb
  have hs2 := hb.size
  refine (impl_removed.del a1 ⟨w.heap.size, 0, none⟩ l0 v _ w2 (by rw [hsz]; exact Nat.lt_succ_self _) hs2 (by rw [hb.cell (by rw [hsz]; exact Nat.lt_succ_self _)]; simp) hR).mono ?_
  rintro e w3 ⟨v3, rfl, h3, hb3⟩
  exact ⟨v3, rfl, Kd.R_lower h3 hB.size, hB.trans ((hb.trans hb3).mono hB.size)⟩
 generalize (l0.filter fun x => !decide (x = a1)) = rr at HD ⊢
 have AD := am HD
 clear HD hB hsz hr0 hc0
 go_enter Try.func77, Try.ntmps77
 go_wp2_with (first | (go_at_call 93; refine HC.mono ?_; rintro e w2 ⟨v, rfl, hR, hb⟩; have HQ := am (AD.out v w2 hR hb); clear hR hb) | (go_at_call 83; refine HQ.out.mono ?_; rintro e w3 ⟨v3, rfl, hR, hb⟩; have HR := am hR; have HB := am hb; clear hR hb))
 go_ret
 exact ⟨_, rfl, HR.out, HB.out⟩

/-! ### impl_members: function 54 -/
open Go.Shelf Go.Lib Go.Sort in
shelf_lay_g SlLaysN.n53 Slgn 53 at Try 58 as impl_members_lay
def impl_members.f (l0 : List Int) : Option (List Int) := (impl_removed.f l0 (-1)).map fun l => l.mergeSort fun x y => decide (x ≤ y)
theorem impl_members.sort (l0 : List Int) (v : Value) (base : Nat) (w2 : World) (hs0 : l0.length < 4611686018427387904) (hbs : base ≤ w2.heap.size) (hR : Kd.R (Kd.int .i64) 2 w2 base (fun _ => True) v l0) :
  Calls Try.prog 58 #[v] w2 fun e w3 => e = .returned (.tuple #[]) ∧ Kd.R (Kd.int .i64) 2 w3 base (fun _ => True) v (l0.mergeSort fun x y => decide (x ≤ y)) ∧ Below base w2 w3 := by
 have hown := Kd.own_of_R hR
 rcases hown.2 with ⟨rfl, hx⟩ | ⟨g, cap, cur, rfl, hbase, hb, h1, h2, h3, h4⟩
 ·have hz : l0 = [] := by
   obtain ⟨A, c, he, _⟩ := Kd.R_reads hR
   injection he with _ hn
   exact List.length_eq_zero_iff.1 hn.symm
  subst hz
  have hcon := AnyG.slices_Sort_int_none impl_members_lay none 0 w2
  change Calls Try.prog 58 _ _ _ at hcon
  refine hcon.mono ?_
  rintro e w3 ⟨rfl, rfl⟩
  exact ⟨rfl, by simpa using Kd.R_nil (Kd.int .i64) 2 w3 base (fun _ => True), Below.refl _ _⟩
 ·have hgs : g < w2.heap.size := (Array.getElem?_eq_some_iff.1 hb).1
  have hcon := AnyG.slices_Sort_int impl_members_lay g 0 cap l0 w2 (holds_of_blockI hb (by simpa [encs] using h4)) hgs hs0
  change Calls Try.prog 58 _ _ _ at hcon
  refine hcon.mono ?_
  rintro e w3 ⟨rfl, n, os, rfl⟩
  refine ⟨rfl, Kd.R_of_own ?_ (fun _ _ => trivial), Below.grown (Below.refl _ _) (grownBy_sortedI _) hbs (by intro k hk; cases hk; exact hbase)⟩
  have := ownsRow_sortedI (n := n) (os := os) (ss := l0) (ts := l0.mergeSort fun x y => decide (x ≤ y)) (by simp) hbase hb h1 h2 h3
  rw [List.length_mergeSort]
  exact this
set_option maxHeartbeats 2000000 in
theorem impl_members.calls (A0 : Option Addr) (c0 : Nat) (l0 : List Int) (r : List Int) (w : World) (hr0 : Kd.C (Kd.int .i64) w A0 l0.length l0) (hc0 : l0.length ≤ c0) (h : impl_members.f l0 = some r) :
  Calls Try.prog 54 #[.slice A0 l0.length c0] w fun e w' => ∃ v0_ : Value, e = .returned (v0_) ∧ Kd.R (Kd.int .i64) 2 w' w.heap.size (fun _ => True) v0_ r ∧ Below w.heap.size w w' := by
 obtain ⟨l, hl, rfl⟩ := Option.map_eq_some_iff.1 h
 clear h
 have hlen : l.length < 4611686018427387904 := by
  unfold impl_removed.f at hl
  by_cases c2 : l0.length < 17592186044416
  ·rw [if_pos c2] at hl
   obtain rfl := Option.some.inj hl
   have : (l0.filter fun x => !decide (x = -1)).length ≤ l0.length := List.length_filter_le _ _
   omega
  ·rw [if_neg c2] at hl; exact absurd hl (by simp)
 have HC := impl_removed.calls A0 c0 l0 (-1) l w hr0 hc0 hl
 have AD := am (show ∀ (v : Value) (w2 : World), Kd.R (Kd.int .i64) 2 w2 w.heap.size (fun _ => True) v l → Below w.heap.size w w2 →
   Calls Try.prog 58 #[v] w2 fun e w3 => e = .returned (.tuple #[]) ∧ Kd.R (Kd.int .i64) 2 w3 w.heap.size (fun _ => True) v (l.mergeSort fun x y => decide (x ≤ y)) ∧ Below w.heap.size w w3 from fun v w2 hR hb =>
  (impl_members.sort l v _ w2 hlen hb.size hR).mono fun e w3 ⟨he, h3, hb3⟩ => ⟨he, h3, hb.trans hb3⟩)
 generalize (l.mergeSort fun x y => decide (x ≤ y)) = rr at AD ⊢
 clear hr0 hc0 hlen hl
 go_enter Try.func54, Try.ntmps54
 go_wp2_with (first | (go_at_call 77; refine HC.mono ?_; rintro e w2 ⟨v, rfl, hR, hb⟩; have HQ := am (AD.out v w2 hR hb); clear hR hb) | (go_at_call 58; refine HQ.out.mono ?_; rintro e w3 ⟨rfl, hR, hb⟩; have HR := am hR; have HB := am hb; clear hR hb))
 go_ret
 exact ⟨_, rfl, HR.out, HB.out⟩

end Go.Proofs.Ytfeaokelfbjcdaa.MFnHeard
