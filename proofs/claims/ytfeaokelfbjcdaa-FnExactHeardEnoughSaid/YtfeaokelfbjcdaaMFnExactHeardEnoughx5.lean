-- Written by a program of this session (wip/tools/myprint.py) over the kit's print: it is not the kit's print.
import Derived.Test.YtfeaokelfbjcdaaExtra
import Derived.Lib.SliceRun
import Derived.Test.YtfeaokelfbjcdaaMFnExactHeardEnoughx0
import Derived.Test.YtfeaokelfbjcdaaMFnExactHeardEnoughx4
namespace Go.Proofs.Ytfeaokelfbjcdaa.MFnExactHeardEnough
open Go.RowKit Go.Proofs.YtfeaokelfbjcdaaW.PrintWords Go.Proofs.YtfeaokelfbjcdaaW.PrintLast Go.Proofs.YtfeaokelfbjcdaaW.PrintMore
attribute [local go_sem] max2_int min2_int max_two min_two max_three min_three max_four min_four   -- for this text's walks alone
set_option linter.unusedVariables false
set_option linter.unusedSimpArgs false

/-! ### slices_Contains_int64_int64: function 48 -/
def slices_Contains_int64_int64.f (k : Nat) (l0 : List Int) (a1 : Int) : Option (Bool) := (slices_Index_int64_int64.f k l0 a1).bind fun t214 => (some (decide (t214 ≥ 0)))
theorem slices_Contains_int64_int64.mono : ∀ a0 a1 k, LeO (slices_Contains_int64_int64.f k a0 a1) (slices_Contains_int64_int64.f (k + 1) a0 a1) := by
  intro a0 a1 k
  unfold slices_Contains_int64_int64.f
  repeat' first
      | (with_reducible exact slices_Index_int64_int64.mono _ _ _)
      | (with_reducible exact LeO.refl _)
      | (with_reducible exact LeO.none _)
      | (with_reducible refine LeO.ite ?_ ?_)
      | (with_reducible refine LeO.bind ?_ (fun _ => ?_))
      | exact slices_Index_int64_int64.mono _ _ _
      | exact LeO.none _
      | refine LeO.ite ?_ ?_
      | refine LeO.bind ?_ (fun _ => ?_)
set_option maxHeartbeats 8000000 in
set_option maxRecDepth 100000 in
theorem slices_Contains_int64_int64.calls (k : Nat) (A0 : Option Addr) (c0 : Nat) (l0 : List Int) (a1 : Int) (r : Bool) (w : World) (hr0 : Kd.C (Kd.int .i64) w A0 l0.length l0) (hc0 : l0.length ≤ c0) (h : slices_Contains_int64_int64.f k l0 a1 = some r) :
    Calls Try.prog 48 #[.slice A0 l0.length c0, .int .i64 a1] w fun e w' => e = .returned (.bool r) ∧ Drawn0 w w' := by
  have HR0 := Aside0.mk hr0
  have HC0 := Aside0.mk hc0
  clear hr0 hc0
  have H : ((slices_Index_int64_int64.f k l0 a1).bind fun t214 => (some (decide (t214 ≥ 0)))) = some r := h
  clear h
  replace H := Option.bind_eq_some_iff.mp H
  obtain ⟨t214, A30, H⟩ := H
  replace H : (some (decide (t214 ≥ 0))) = some r := H
  have A3 := Aside0.mk A30
  clear A30
  obtain rfl := Option.some.inj H
  go_enter Try.func48, Try.ntmps48
  go_wp2_with (first | ((with_reducible refine gate_callee (f := 50) rfl ?_); refine goesL_ (some 7) rfl rfl Try.func50 (by kernel_rfl) rfl #[.slice A0 l0.length c0, .int .i64 a1] rfl (by (try simp only [List.map_toArray, List.map_cons, List.map_nil]); first | done | rfl | (simp only [List.length_drop, List.length_take]; rfl)) ?_; (with_reducible refine (slices_Index_int64_int64.calls k _ _ l0 a1 t214 _ ?side1 ?side2 A3.out).mono ?_); (case side1 => repeat (first | exact HR0.out | (with_reducible refine Kd.C_alloc ?_ _) | (with_reducible refine Kd.C_drewN ?_ _) | (with_reducible refine Kd.C_drew ?_))); (case side2 => exact HC0.out); rintro e w' ⟨rfl, ⟨nd, rfl⟩⟩; refine ⟨_, rfl, ?_⟩))
  go_ret
  exact ⟨by first | rfl | (simp; done) | (simp [*]; done), by repeat (first | exact Drawn0.refl _ | apply Drawn0.step)⟩

/-! ### impl_ActingOk: function 15 -/
def impl_ActingOk.l0 : Nat → List Int → List Int → Int → Int → Option (Bool)
  | 0, _, _, _, _ => none
  | k + 1, x0, x5, x6, x7 => if x7 < x6 then (if 0 ≤ x7 then (if x7 < (x5.length : Int) then ((impl_between.f (rd x5 x7) (-1) 15).bind fun t217 => (if t217 = true then (if (rd x5 x7) ≥ 0 then (if x7 ≤ (x0.length : Int) then ((slices_Contains_int64_int64.f k (x0.take (x7 : Int).toNat) (rd x5 x7)).bind fun t219 => (if t219 = true then (some false) else (impl_ActingOk.l0 k x0 x5 x6 (wrap64 (x7 + 1))))) else (none)) else (impl_ActingOk.l0 k x0 x5 x6 (wrap64 (x7 + 1)))) else (some false))) else (none)) else (none)) else ((impl_between.f (x0.length : Int) 1 7).bind fun t215 => (some t215))
def impl_ActingOk.f (k : Nat) (l0 : List Int) : Option (Bool) := impl_ActingOk.l0 k l0 l0 (l0.length : Int) 0
theorem impl_ActingOk.mono_l : ∀ k, (∀ y0 y1 y2 y3, LeO (impl_ActingOk.l0 k y0 y1 y2 y3) (impl_ActingOk.l0 (k + 1) y0 y1 y2 y3))
  | 0 => fun _ _ _ _ r h => by simp [impl_ActingOk.l0] at h
  | k + 1 => by
    have ih0 := impl_ActingOk.mono_l k
    · intro y0 y1 y2 y3
      unfold impl_ActingOk.l0
      repeat' first
      | (with_reducible exact ih0 _ _ _ _)
      | (with_reducible exact slices_Contains_int64_int64.mono _ _ _)
      | (with_reducible exact LeO.refl _)
      | (with_reducible exact LeO.none _)
      | (with_reducible refine LeO.ite ?_ ?_)
      | (with_reducible refine LeO.bind ?_ (fun _ => ?_))
      | exact ih0 _ _ _ _
      | exact slices_Contains_int64_int64.mono _ _ _
      | exact LeO.none _
      | refine LeO.ite ?_ ?_
      | refine LeO.bind ?_ (fun _ => ?_)
theorem impl_ActingOk.mono : ∀ a0 k, LeO (impl_ActingOk.f k a0) (impl_ActingOk.f (k + 1) a0) := by
  intro a0 k
  have ih0 := impl_ActingOk.mono_l k
  unfold impl_ActingOk.f
  repeat' first
      | (with_reducible exact ih0 _ _ _ _)
      | (with_reducible exact slices_Contains_int64_int64.mono _ _ _)
      | (with_reducible exact LeO.refl _)
      | (with_reducible exact LeO.none _)
      | (with_reducible refine LeO.ite ?_ ?_)
      | (with_reducible refine LeO.bind ?_ (fun _ => ?_))
      | exact ih0 _ _ _ _
      | exact slices_Contains_int64_int64.mono _ _ _
      | exact LeO.none _
      | refine LeO.ite ?_ ?_
      | refine LeO.bind ?_ (fun _ => ?_)
set_option maxHeartbeats 8000000 in
set_option maxRecDepth 100000 in
theorem impl_ActingOk.calls (k : Nat) (A0 : Option Addr) (c0 : Nat) (l0 : List Int) (r : Bool) (w : World) (hr0 : Kd.C (Kd.int .i64) w A0 l0.length l0) (hc0 : l0.length ≤ c0) (h : impl_ActingOk.f k l0 = some r) :
    Calls Try.prog 15 #[.slice A0 l0.length c0] w fun e w' => e = .returned (.bool r) ∧ Drawn0 w w' := by
  have HR0 := Aside0.mk hr0
  have HC0 := Aside0.mk hc0
  clear hr0 hc0
  have H : (impl_ActingOk.l0 k l0 l0 (l0.length : Int) 0) = some r := h
  clear h
  have H' := Aside0.mk H
  clear H
  go_enter Try.func15, Try.ntmps15
  go_wp2
  go_loopg [7] k (fun kq v7 w' => ∃ (x7_1 : Int), v7 = .int .i64 x7_1 ∧ Aside0 (impl_ActingOk.l0 kq l0 l0 (l0.length : Int) x7_1 = some r) ∧ Aside0 (kq ≤ k) ∧ Drawn0 w w')
  case atStart => exact ⟨(0), (by first | rfl | (simp; done) | (simp [*]; done)), H', ⟨Nat.le_refl _⟩, by repeat (first | exact Drawn0.refl _ | apply Drawn0.step)⟩
  case round =>
    clear H'
    try clear c1
    obtain ⟨x7_1, rfl, HA, HK1, ⟨m1, rfl⟩⟩ := hrel
    cases gk with
    | zero => exact absurd HA.out (by simp [impl_ActingOk.l0])
    | succ k1 =>
      have H := HA.out
      clear HA
      simp only [impl_ActingOk.l0] at H
      by_cases c2 : x7_1 < (l0.length : Int)
      · rw [if_pos c2] at H
        have c2b0 : decide (x7_1 < (l0.length : Int)) = true := decide_eq_true c2
        clear c2
        by_cases c3 : 0 ≤ x7_1
        · rw [if_pos c3] at H
          have c3b0 : decide (0 ≤ x7_1) = true := decide_eq_true c3
          clear c3
          by_cases c4 : x7_1 < (l0.length : Int)
          · rw [if_pos c4] at H
            have c4b0 : decide (x7_1 < (l0.length : Int)) = true := decide_eq_true c4
            clear c4
            replace H := Option.bind_eq_some_iff.mp H
            obtain ⟨t217, A50, H⟩ := H
            replace H : (if t217 = true then (if (rd l0 x7_1) ≥ 0 then (if x7_1 ≤ (l0.length : Int) then ((slices_Contains_int64_int64.f k1 (l0.take (x7_1 : Int).toNat) (rd l0 x7_1)).bind fun t219 => (if t219 = true then (some false) else (impl_ActingOk.l0 k1 l0 l0 (l0.length : Int) (wrap64 (x7_1 + 1))))) else (none)) else (impl_ActingOk.l0 k1 l0 l0 (l0.length : Int) (wrap64 (x7_1 + 1)))) else (some false)) = some r := H
            have A5 := Aside0.mk A50
            clear A50
            by_cases c6 : t217 = true
            · subst c6
              have H1 : (if (rd l0 x7_1) ≥ 0 then (if x7_1 ≤ (l0.length : Int) then ((slices_Contains_int64_int64.f k1 (l0.take (x7_1 : Int).toNat) (rd l0 x7_1)).bind fun t219 => (if t219 = true then (some false) else (impl_ActingOk.l0 k1 l0 l0 (l0.length : Int) (wrap64 (x7_1 + 1))))) else (none)) else (impl_ActingOk.l0 k1 l0 l0 (l0.length : Int) (wrap64 (x7_1 + 1)))) = some r := by rw [if_pos rfl] at H; exact H
              clear H
              have H := H1
              clear H1
              by_cases c7 : (rd l0 x7_1) ≥ 0
              · rw [if_pos c7] at H
                have c7b0 : decide (0 ≤ (rd l0 x7_1)) = true := decide_eq_true c7
                clear c7
                have c8b0 := eq_true (of_decide_eq_true (by first | (with_reducible assumption) | assumption) : 0 ≤ x7_1)
                by_cases c9 : x7_1 ≤ (l0.length : Int)
                · rw [if_pos c9] at H
                  have c9b0 := eq_true c9
                  have c9b1 : decide (x7_1 ≤ (l0.length : Int)) = true := decide_eq_true c9
                  clear c9
                  replace H := Option.bind_eq_some_iff.mp H
                  obtain ⟨t219, A100, H⟩ := H
                  replace H : (if t219 = true then (some false) else (impl_ActingOk.l0 k1 l0 l0 (l0.length : Int) (wrap64 (x7_1 + 1)))) = some r := H
                  have A10 := Aside0.mk A100
                  clear A100
                  by_cases c11 : t219 = true
                  · subst c11
                    have H1 : (some false) = some r := by rw [if_pos rfl] at H; exact H
                    clear H
                    have H := H1
                    clear H1
                    obtain rfl := Option.some.inj H
                    have p216 : 0 ≤ (x7_1 : Int) := of_decide_eq_true (by first | (with_reducible assumption) | assumption)
                    have q216 : x7_1 < (l0.length : Int) := of_decide_eq_true (by first | (with_reducible assumption) | assumption)
                    obtain ⟨ad216, e216, hx216_0⟩ := Kd.at_int HR0.out x7_1 p216 q216
                    cases e216
                    replace p216 := eq_true p216
                    replace q216 := eq_true q216
                    go_wp2_with (first | ((with_reducible refine gate_callee (f := 47) rfl ?_); refine goesL_ (some 13) rfl rfl Try.func47 (by kernel_rfl) rfl #[.int .i64 (rd l0 x7_1), .int .i64 (-1), .int .i64 15] rfl (by (try simp only [List.map_toArray, List.map_cons, List.map_nil]); first | done | rfl | (simp only [List.length_drop, List.length_take]; rfl)) ?_; (with_reducible refine (impl_between.calls (rd l0 x7_1) (-1) 15 true _ A5.out).mono ?_); rintro e w' ⟨rfl, ⟨nd, rfl⟩⟩; refine ⟨_, rfl, ?_⟩; obtain ⟨i012, hi012, _, hsz12, _⟩ := info_parts info2; obtain ⟨hcut12, hA12, hC12⟩ := print_take_of (P := Try.prog) (Value.int .i64) 0 22 2 .i64 Try.underlying22 hi012 hsz12 (some ad216) c0 l0 x7_1 (of_decide_eq_true (by first | (with_reducible assumption) | assumption)) (of_decide_eq_true (by first | (with_reducible assumption) | assumption)) HC0.out; have HL12 := Aside0.mk (show (x7_1 : Int).toNat = (l0.take (x7_1 : Int).toNat).length from (by rw [List.length_take]; have z1_ : 0 ≤ (x7_1 : Int) := (of_decide_eq_true (by first | (with_reducible assumption) | assumption)); have z2_ : (x7_1 : Int) ≤ l0.length := (of_decide_eq_true (by first | (with_reducible assumption) | assumption)); omega)); have HR218 := Aside0.mk (Kd.C_of_reads (h1 := fun _ => rfl) (hA12 _ (Kd.reads_of_C HR0.out))); have HC218 := Aside0.mk hC12; clear hA12 hC12 hi012 hsz12) | (go_at_call 48; (try rw [HL12.out]); (with_reducible refine (slices_Contains_int64_int64.calls k1 _ _ (l0.take (x7_1 : Int).toNat) (rd l0 x7_1) true _ ?side1 ?side2 A10.out).mono ?_); (case side1 => repeat (first | exact HR218.out | (with_reducible refine Kd.C_alloc ?_ _) | (with_reducible refine Kd.C_drewN ?_ _) | (with_reducible refine Kd.C_drew ?_))); (case side2 => exact HC218.out); rintro e w' ⟨rfl, ⟨nd, rfl⟩⟩))
                    go_ret
                    exact ⟨by first | rfl | (simp; done) | (simp [*]; done), by repeat (first | exact Drawn0.refl _ | apply Drawn0.step)⟩
                  · replace c11 := Bool.eq_false_iff.mpr c11
                    subst c11
                    have H1 : (impl_ActingOk.l0 k1 l0 l0 (l0.length : Int) (wrap64 (x7_1 + 1))) = some r := by rw [if_neg (show ¬ (false = true) by decide)] at H; exact H
                    clear H
                    have H := H1
                    clear H1
                    have H' := Aside0.mk H
                    clear H
                    have p216 : 0 ≤ (x7_1 : Int) := of_decide_eq_true (by first | (with_reducible assumption) | assumption)
                    have q216 : x7_1 < (l0.length : Int) := of_decide_eq_true (by first | (with_reducible assumption) | assumption)
                    obtain ⟨ad216, e216, hx216_0⟩ := Kd.at_int HR0.out x7_1 p216 q216
                    cases e216
                    replace p216 := eq_true p216
                    replace q216 := eq_true q216
                    go_wp2_with (first | ((with_reducible refine gate_callee (f := 47) rfl ?_); refine goesL_ (some 13) rfl rfl Try.func47 (by kernel_rfl) rfl #[.int .i64 (rd l0 x7_1), .int .i64 (-1), .int .i64 15] rfl (by (try simp only [List.map_toArray, List.map_cons, List.map_nil]); first | done | rfl | (simp only [List.length_drop, List.length_take]; rfl)) ?_; (with_reducible refine (impl_between.calls (rd l0 x7_1) (-1) 15 true _ A5.out).mono ?_); rintro e w' ⟨rfl, ⟨nd, rfl⟩⟩; refine ⟨_, rfl, ?_⟩; obtain ⟨i013, hi013, _, hsz13, _⟩ := info_parts info2; obtain ⟨hcut13, hA13, hC13⟩ := print_take_of (P := Try.prog) (Value.int .i64) 0 22 2 .i64 Try.underlying22 hi013 hsz13 (some ad216) c0 l0 x7_1 (of_decide_eq_true (by first | (with_reducible assumption) | assumption)) (of_decide_eq_true (by first | (with_reducible assumption) | assumption)) HC0.out; have HL13 := Aside0.mk (show (x7_1 : Int).toNat = (l0.take (x7_1 : Int).toNat).length from (by rw [List.length_take]; have z1_ : 0 ≤ (x7_1 : Int) := (of_decide_eq_true (by first | (with_reducible assumption) | assumption)); have z2_ : (x7_1 : Int) ≤ l0.length := (of_decide_eq_true (by first | (with_reducible assumption) | assumption)); omega)); have HR218 := Aside0.mk (Kd.C_of_reads (h1 := fun _ => rfl) (hA13 _ (Kd.reads_of_C HR0.out))); have HC218 := Aside0.mk hC13; clear hA13 hC13 hi013 hsz13) | (go_at_call 48; (try rw [HL13.out]); (with_reducible refine (slices_Contains_int64_int64.calls k1 _ _ (l0.take (x7_1 : Int).toNat) (rd l0 x7_1) false _ ?side1 ?side2 A10.out).mono ?_); (case side1 => repeat (first | exact HR218.out | (with_reducible refine Kd.C_alloc ?_ _) | (with_reducible refine Kd.C_drewN ?_ _) | (with_reducible refine Kd.C_drew ?_))); (case side2 => exact HC218.out); rintro e w' ⟨rfl, ⟨nd, rfl⟩⟩))
                    go_roundg k1
                    case measure => have := HK1.out; omega
                    case rel => exact ⟨(wrap64 (x7_1 + 1)), (by first | rfl | (simp; done) | (simp [*]; done)), H', ⟨by have := HK1.out; omega⟩, by repeat (first | exact Drawn0.refl _ | apply Drawn0.step)⟩
                · rw [if_neg c9] at H
                  exact absurd H (by simp)
              · rw [if_neg c7] at H
                have c7b0 : decide (0 ≤ (rd l0 x7_1)) = false := decide_eq_false c7
                clear c7
                have H' := Aside0.mk H
                clear H
                have p216 : 0 ≤ (x7_1 : Int) := of_decide_eq_true (by first | (with_reducible assumption) | assumption)
                have q216 : x7_1 < (l0.length : Int) := of_decide_eq_true (by first | (with_reducible assumption) | assumption)
                obtain ⟨ad216, e216, hx216_0⟩ := Kd.at_int HR0.out x7_1 p216 q216
                cases e216
                replace p216 := eq_true p216
                replace q216 := eq_true q216
                go_wp2_with (first | ((with_reducible refine gate_callee (f := 47) rfl ?_); refine goesL_ (some 13) rfl rfl Try.func47 (by kernel_rfl) rfl #[.int .i64 (rd l0 x7_1), .int .i64 (-1), .int .i64 15] rfl (by (try simp only [List.map_toArray, List.map_cons, List.map_nil]); first | done | rfl | (simp only [List.length_drop, List.length_take]; rfl)) ?_; (with_reducible refine (impl_between.calls (rd l0 x7_1) (-1) 15 true _ A5.out).mono ?_); rintro e w' ⟨rfl, ⟨nd, rfl⟩⟩; refine ⟨_, rfl, ?_⟩))
                go_roundg k1
                case measure => have := HK1.out; omega
                case rel => exact ⟨(wrap64 (x7_1 + 1)), (by first | rfl | (simp; done) | (simp [*]; done)), H', ⟨by have := HK1.out; omega⟩, by repeat (first | exact Drawn0.refl _ | apply Drawn0.step)⟩
            · replace c6 := Bool.eq_false_iff.mpr c6
              subst c6
              have H1 : (some false) = some r := by rw [if_neg (show ¬ (false = true) by decide)] at H; exact H
              clear H
              have H := H1
              clear H1
              obtain rfl := Option.some.inj H
              have p216 : 0 ≤ (x7_1 : Int) := of_decide_eq_true (by first | (with_reducible assumption) | assumption)
              have q216 : x7_1 < (l0.length : Int) := of_decide_eq_true (by first | (with_reducible assumption) | assumption)
              obtain ⟨ad216, e216, hx216_0⟩ := Kd.at_int HR0.out x7_1 p216 q216
              cases e216
              replace p216 := eq_true p216
              replace q216 := eq_true q216
              go_wp2_with (first | ((with_reducible refine gate_callee (f := 47) rfl ?_); refine goesL_ (some 13) rfl rfl Try.func47 (by kernel_rfl) rfl #[.int .i64 (rd l0 x7_1), .int .i64 (-1), .int .i64 15] rfl (by (try simp only [List.map_toArray, List.map_cons, List.map_nil]); first | done | rfl | (simp only [List.length_drop, List.length_take]; rfl)) ?_; (with_reducible refine (impl_between.calls (rd l0 x7_1) (-1) 15 false _ A5.out).mono ?_); rintro e w' ⟨rfl, ⟨nd, rfl⟩⟩; refine ⟨_, rfl, ?_⟩))
              go_ret
              exact ⟨by first | rfl | (simp; done) | (simp [*]; done), by repeat (first | exact Drawn0.refl _ | apply Drawn0.step)⟩
          · rw [if_neg c4] at H
            exact absurd H (by simp)
        · rw [if_neg c3] at H
          exact absurd H (by simp)
      · rw [if_neg c2] at H
        have c2b0 : decide (x7_1 < (l0.length : Int)) = false := decide_eq_false c2
        clear c2
        replace H := Option.bind_eq_some_iff.mp H
        obtain ⟨t215, A140, H⟩ := H
        replace H : (some t215) = some r := H
        have A14 := Aside0.mk A140
        clear A140
        obtain rfl := Option.some.inj H
        go_wp2_with (first | ((with_reducible refine gate_callee (f := 47) rfl ?_); refine goesL_ (some 29) rfl rfl Try.func47 (by kernel_rfl) rfl #[.int .i64 (l0.length : Int), .int .i64 1, .int .i64 7] rfl (by (try simp only [List.map_toArray, List.map_cons, List.map_nil]); first | done | rfl | (simp only [List.length_drop, List.length_take]; rfl)) ?_; (with_reducible refine (impl_between.calls (l0.length : Int) 1 7 t215 _ A14.out).mono ?_); rintro e w' ⟨rfl, ⟨nd, rfl⟩⟩; refine ⟨_, rfl, ?_⟩))
        go_ret
        exact ⟨by first | rfl | (simp; done) | (simp [*]; done), by repeat (first | exact Drawn0.refl _ | apply Drawn0.step)⟩

/-! ### impl_IntervalsOk: function 30 -/
def impl_IntervalsOk.l0 : Nat → List (S43) → Int → List (S43) → Int → Int → Option (Bool)
  | 0, _, _, _, _, _ => none
  | k + 1, x0, x3, x6, x7, x8 => if x8 < x7 then (if 0 ≤ x8 then (if x8 < (x6.length : Int) then (if ((rd_T43 x6 x8).f0) = x3 then ((impl_between.f ((rd_T43 x6 x8).f1) ((rd_T43 x6 x8).f0) 60).bind fun t222 => (if t222 = true then ((impl_ActingOk.f k ((rd_T43 x6 x8).f2)).bind fun t223 => (if t223 = true then (if 0 < (x0.length : Int) then (if (((rd_T43 x6 x8).f2).length : Int) = (((rd_T43 x0 0).f2).length : Int) then (impl_IntervalsOk.l0 k x0 (wrap64 (((rd_T43 x6 x8).f1) + 1)) x6 x7 (wrap64 (x8 + 1))) else (some false)) else (none)) else (some false))) else (some false))) else (some false)) else (none)) else (none)) else (some (decide ((x0.length : Int) ≤ 60)))
def impl_IntervalsOk.f (k : Nat) (l0 : List (S43)) : Option (Bool) := impl_IntervalsOk.l0 k l0 1 l0 (l0.length : Int) 0
theorem impl_IntervalsOk.mono_l : ∀ k, (∀ y0 y1 y2 y3 y4, LeO (impl_IntervalsOk.l0 k y0 y1 y2 y3 y4) (impl_IntervalsOk.l0 (k + 1) y0 y1 y2 y3 y4))
  | 0 => fun _ _ _ _ _ r h => by simp [impl_IntervalsOk.l0] at h
  | k + 1 => by
    have ih0 := impl_IntervalsOk.mono_l k
    · intro y0 y1 y2 y3 y4
      unfold impl_IntervalsOk.l0
      repeat' first
      | (with_reducible exact ih0 _ _ _ _ _)
      | (with_reducible exact impl_ActingOk.mono _ _)
      | (with_reducible exact LeO.refl _)
      | (with_reducible exact LeO.none _)
      | (with_reducible refine LeO.ite ?_ ?_)
      | (with_reducible refine LeO.bind ?_ (fun _ => ?_))
      | exact ih0 _ _ _ _ _
      | exact impl_ActingOk.mono _ _
      | exact LeO.none _
      | refine LeO.ite ?_ ?_
      | refine LeO.bind ?_ (fun _ => ?_)
theorem impl_IntervalsOk.mono : ∀ a0 k, LeO (impl_IntervalsOk.f k a0) (impl_IntervalsOk.f (k + 1) a0) := by
  intro a0 k
  have ih0 := impl_IntervalsOk.mono_l k
  unfold impl_IntervalsOk.f
  repeat' first
      | (with_reducible exact ih0 _ _ _ _ _)
      | (with_reducible exact impl_ActingOk.mono _ _)
      | (with_reducible exact LeO.refl _)
      | (with_reducible exact LeO.none _)
      | (with_reducible refine LeO.ite ?_ ?_)
      | (with_reducible refine LeO.bind ?_ (fun _ => ?_))
      | exact ih0 _ _ _ _ _
      | exact impl_ActingOk.mono _ _
      | exact LeO.none _
      | refine LeO.ite ?_ ?_
      | refine LeO.bind ?_ (fun _ => ?_)
set_option maxHeartbeats 8000000 in
set_option maxRecDepth 100000 in
theorem impl_IntervalsOk.calls (k : Nat) (A0 : Option Addr) (c0 : Nat) (l0 : List (S43)) (r : Bool) (w : World) (hr0 : Kd.C k43 w A0 l0.length l0) (hc0 : l0.length ≤ c0) (h : impl_IntervalsOk.f k l0 = some r) :
    Calls Try.prog 30 #[.slice A0 l0.length c0] w fun e w' => e = .returned (.bool r) ∧ Below w.heap.size w w' := by
  have hu43 := Try.underlying43
  have HR0 := Aside0.mk hr0
  have HC0 := Aside0.mk hc0
  clear hr0 hc0
  have HB := Aside0.mk (Below.refl w.heap.size w)
  have H : (impl_IntervalsOk.l0 k l0 1 l0 (l0.length : Int) 0) = some r := h
  clear h
  have H' := Aside0.mk H
  clear H
  go_enter Try.func30, Try.ntmps30
  go_wp2
  repeat (go_quiet (fail); try go_wp2)
  go_loopg [3, 8] k (fun kq v3 v8 w' => ∃ (x3_1 : Int) (x8_1 : Int), v3 = .int .i64 x3_1 ∧ v8 = .int .i64 x8_1 ∧ Aside0 (impl_IntervalsOk.l0 kq l0 x3_1 l0 (l0.length : Int) x8_1 = some r) ∧ Aside0 (kq ≤ k) ∧ Aside0 (Below w.heap.size w w'))
  case atStart => exact ⟨(1), (0), (by first | rfl | (simp; done) | (simp [*]; done)), (by first | rfl | (simp; done) | (simp [*]; done)), H', ⟨Nat.le_refl _⟩, ⟨by repeat (first | (with_reducible first | exact HB.out | apply below_alloc | apply pw_below_drewN | apply below_drew1) | exact HB.out)⟩⟩
  case round =>
    clear H'
    obtain ⟨x3_1, x8_1, rfl, rfl, HA, HK1, HB⟩ := hrel
    cases gk with
    | zero => exact absurd HA.out (by simp [impl_IntervalsOk.l0])
    | succ k1 =>
      have H := HA.out
      clear HA
      simp only [impl_IntervalsOk.l0] at H
      by_cases c2 : x8_1 < (l0.length : Int)
      · rw [if_pos c2] at H
        have c2b0 : decide (x8_1 < (l0.length : Int)) = true := decide_eq_true c2
        clear c2
        by_cases c3 : 0 ≤ x8_1
        · rw [if_pos c3] at H
          have c3b0 : decide (0 ≤ x8_1) = true := decide_eq_true c3
          clear c3
          by_cases c4 : x8_1 < (l0.length : Int)
          · rw [if_pos c4] at H
            have c4b0 : decide (x8_1 < (l0.length : Int)) = true := decide_eq_true c4
            clear c4
            by_cases c5 : ((rd_T43 l0 x8_1).f0) = x3_1
            · rw [if_pos c5] at H
              have c5b0 : (((rd_T43 l0 x8_1).f0) == x3_1) = true := beq_iff_eq.mpr c5
              have c5b1 : (((rd_T43 l0 x8_1).f0) != x3_1) = false := bne_eq_false_iff_eq.mpr c5
              clear c5
              replace H := Option.bind_eq_some_iff.mp H
              obtain ⟨t222, A60, H⟩ := H
              replace H : (if t222 = true then ((impl_ActingOk.f k1 ((rd_T43 l0 x8_1).f2)).bind fun t223 => (if t223 = true then (if 0 < (l0.length : Int) then (if (((rd_T43 l0 x8_1).f2).length : Int) = (((rd_T43 l0 0).f2).length : Int) then (impl_IntervalsOk.l0 k1 l0 (wrap64 (((rd_T43 l0 x8_1).f1) + 1)) l0 (l0.length : Int) (wrap64 (x8_1 + 1))) else (some false)) else (none)) else (some false))) else (some false)) = some r := H
              have A6 := Aside0.mk A60
              clear A60
              by_cases c7 : t222 = true
              · subst c7
                have H1 : ((impl_ActingOk.f k1 ((rd_T43 l0 x8_1).f2)).bind fun t223 => (if t223 = true then (if 0 < (l0.length : Int) then (if (((rd_T43 l0 x8_1).f2).length : Int) = (((rd_T43 l0 0).f2).length : Int) then (impl_IntervalsOk.l0 k1 l0 (wrap64 (((rd_T43 l0 x8_1).f1) + 1)) l0 (l0.length : Int) (wrap64 (x8_1 + 1))) else (some false)) else (none)) else (some false))) = some r := by rw [if_pos rfl] at H; exact H
                clear H
                have H := H1
                clear H1
                replace H := Option.bind_eq_some_iff.mp H
                obtain ⟨t223, A80, H⟩ := H
                replace H : (if t223 = true then (if 0 < (l0.length : Int) then (if (((rd_T43 l0 x8_1).f2).length : Int) = (((rd_T43 l0 0).f2).length : Int) then (impl_IntervalsOk.l0 k1 l0 (wrap64 (((rd_T43 l0 x8_1).f1) + 1)) l0 (l0.length : Int) (wrap64 (x8_1 + 1))) else (some false)) else (none)) else (some false)) = some r := H
                have A8 := Aside0.mk A80
                clear A80
                by_cases c9 : t223 = true
                · subst c9
                  have H1 : (if 0 < (l0.length : Int) then (if (((rd_T43 l0 x8_1).f2).length : Int) = (((rd_T43 l0 0).f2).length : Int) then (impl_IntervalsOk.l0 k1 l0 (wrap64 (((rd_T43 l0 x8_1).f1) + 1)) l0 (l0.length : Int) (wrap64 (x8_1 + 1))) else (some false)) else (none)) = some r := by rw [if_pos rfl] at H; exact H
                  clear H
                  have H := H1
                  clear H1
                  by_cases c10 : 0 < (l0.length : Int)
                  · rw [if_pos c10] at H
                    have c10b0 : decide (0 < (l0.length : Int)) = true := decide_eq_true c10
                    have c10b1 : decide (0 < l0.length) = true := decide_eq_true (by omega)
                    clear c10
                    by_cases c11 : (((rd_T43 l0 x8_1).f2).length : Int) = (((rd_T43 l0 0).f2).length : Int)
                    · rw [if_pos c11] at H
                      have c11b0 : ((((rd_T43 l0 x8_1).f2).length : Int) == (((rd_T43 l0 0).f2).length : Int)) = true := beq_iff_eq.mpr c11
                      have c11b1 : ((((rd_T43 l0 x8_1).f2).length : Int) != (((rd_T43 l0 0).f2).length : Int)) = false := bne_eq_false_iff_eq.mpr c11
                      have c11b2 : (((rd_T43 l0 x8_1).f2).length == ((rd_T43 l0 0).f2).length) = true := by first | simpa using c11 | (simp at c11 ⊢; omega)
                      clear c11
                      have H' := Aside0.mk H
                      clear H
                      have p220 : 0 ≤ (x8_1 : Int) := of_decide_eq_true (by first | (with_reducible assumption) | assumption)
                      have q220 : x8_1 < (l0.length : Int) := of_decide_eq_true (by first | (with_reducible assumption) | assumption)
                      obtain ⟨ad220, A220_2, c220_2, e220, hx220_0, hx220_1, hx220_2, hx220_3, hl220_2, hi220_2⟩ := at_T43 HR0.out x8_1 p220 q220
                      cases e220
                      replace hx220_0 := (HB.out.cell (World.block_lt_of_cell? w _ hx220_0)).trans hx220_0
                      replace hx220_1 := (HB.out.cell (World.block_lt_of_cell? w _ hx220_1)).trans hx220_1
                      replace hx220_2 := (HB.out.cell (World.block_lt_of_cell? w _ hx220_2)).trans hx220_2
                      replace hx220_3 := (HB.out.cell (World.block_lt_of_cell? w _ hx220_3)).trans hx220_3
                      have HR220_2 := Aside0.mk hi220_2
                      have HC220_2 := Aside0.mk hl220_2
                      clear hi220_2 hl220_2
                      replace p220 := eq_true p220
                      replace q220 := eq_true q220
                      try (have p224 : 0 ≤ (0 : Int) := (by omega); have q224 : 0 < (l0.length : Int) := of_decide_eq_true (by first | (with_reducible assumption) | assumption); obtain ⟨ad224, A224_2, c224_2, e224, hx224_0, hx224_1, hx224_2, hx224_3, hl224_2, hi224_2⟩ := at_T43 HR0.out 0 p224 q224; obtain rfl : ad220 = ad224 := (by injection e224); have qi224 : (0 < l0.length) = True := eq_true (by omega); (try rw [show ((0 : Int)).toNat = 0 from rfl] at hx224_0); (try rw [show 0 * 4 = 0 from rfl] at hx224_0); (try rw [Addr.add_zero'] at hx224_0); (try rw [show ((0 : Int)).toNat = 0 from rfl] at hx224_1); (try rw [show 0 * 4 = 0 from rfl] at hx224_1); (try rw [Addr.add_zero'] at hx224_1); (try rw [show ((0 : Int)).toNat = 0 from rfl] at hx224_2); (try rw [show 0 * 4 = 0 from rfl] at hx224_2); (try rw [Addr.add_zero'] at hx224_2); (try rw [show ((0 : Int)).toNat = 0 from rfl] at hx224_3); (try rw [show 0 * 4 = 0 from rfl] at hx224_3); (try rw [Addr.add_zero'] at hx224_3); have hn224_0 : ad220.block ≠ gb221 := Nat.ne_of_lt (Nat.lt_of_lt_of_le (by have := World.block_lt_of_cell? _ _ hx224_0; first | rwa [add_block] at this | exact this) GW221.out); have hn224_1 : ad220.block ≠ gb221 := Nat.ne_of_lt (Nat.lt_of_lt_of_le (by have := World.block_lt_of_cell? _ _ hx224_0; first | rwa [add_block] at this | exact this) GW221.out); have hn224_2 : ad220.block ≠ gb221 := Nat.ne_of_lt (Nat.lt_of_lt_of_le (by have := World.block_lt_of_cell? _ _ hx224_0; first | rwa [add_block] at this | exact this) GW221.out); have hn224_3 : ad220.block ≠ gb221 := Nat.ne_of_lt (Nat.lt_of_lt_of_le (by have := World.block_lt_of_cell? _ _ hx224_0; first | rwa [add_block] at this | exact this) GW221.out); replace hx224_0 := (HB.out.cell (World.block_lt_of_cell? w _ hx224_0)).trans hx224_0; replace hx224_1 := (HB.out.cell (World.block_lt_of_cell? w _ hx224_1)).trans hx224_1; replace hx224_2 := (HB.out.cell (World.block_lt_of_cell? w _ hx224_2)).trans hx224_2; replace hx224_3 := (HB.out.cell (World.block_lt_of_cell? w _ hx224_3)).trans hx224_3; have HR224_2 := Aside0.mk hi224_2; have HC224_2 := Aside0.mk hl224_2; clear hi224_2 hl224_2; replace hx224_0 := (cell_far (p := ⟨gb221, 0, none⟩) (by first | (rw [add_block]; exact hn224_0) | (show (Addr.add _ _).block ≠ _; rw [add_block]; exact hn224_0) | exact hn224_0) (.int .i64 ((rd_T43 l0 x8_1).f0))).trans hx224_0; replace hx224_1 := (cell_far (p := ⟨gb221, 0, none⟩) (by first | (rw [add_block]; exact hn224_0) | (show (Addr.add _ _).block ≠ _; rw [add_block]; exact hn224_0) | exact hn224_0) (.int .i64 ((rd_T43 l0 x8_1).f0))).trans hx224_1; replace hx224_2 := (cell_far (p := ⟨gb221, 0, none⟩) (by first | (rw [add_block]; exact hn224_0) | (show (Addr.add _ _).block ≠ _; rw [add_block]; exact hn224_0) | exact hn224_0) (.int .i64 ((rd_T43 l0 x8_1).f0))).trans hx224_2; replace hx224_3 := (cell_far (p := ⟨gb221, 0, none⟩) (by first | (rw [add_block]; exact hn224_0) | (show (Addr.add _ _).block ≠ _; rw [add_block]; exact hn224_0) | exact hn224_0) (.int .i64 ((rd_T43 l0 x8_1).f0))).trans hx224_3; replace hx224_0 := (cell_far (p := ⟨gb221, 1, none⟩) (by first | (rw [add_block]; exact hn224_1) | (show (Addr.add _ _).block ≠ _; rw [add_block]; exact hn224_1) | exact hn224_1) (.int .i64 ((rd_T43 l0 x8_1).f1))).trans hx224_0; replace hx224_1 := (cell_far (p := ⟨gb221, 1, none⟩) (by first | (rw [add_block]; exact hn224_1) | (show (Addr.add _ _).block ≠ _; rw [add_block]; exact hn224_1) | exact hn224_1) (.int .i64 ((rd_T43 l0 x8_1).f1))).trans hx224_1; replace hx224_2 := (cell_far (p := ⟨gb221, 1, none⟩) (by first | (rw [add_block]; exact hn224_1) | (show (Addr.add _ _).block ≠ _; rw [add_block]; exact hn224_1) | exact hn224_1) (.int .i64 ((rd_T43 l0 x8_1).f1))).trans hx224_2; replace hx224_3 := (cell_far (p := ⟨gb221, 1, none⟩) (by first | (rw [add_block]; exact hn224_1) | (show (Addr.add _ _).block ≠ _; rw [add_block]; exact hn224_1) | exact hn224_1) (.int .i64 ((rd_T43 l0 x8_1).f1))).trans hx224_3; replace hx224_0 := (cell_far (p := ⟨gb221, 2, none⟩) (by first | (rw [add_block]; exact hn224_2) | (show (Addr.add _ _).block ≠ _; rw [add_block]; exact hn224_2) | exact hn224_2) (.slice A220_2 ((rd_T43 l0 x8_1).f2).length c220_2)).trans hx224_0; replace hx224_1 := (cell_far (p := ⟨gb221, 2, none⟩) (by first | (rw [add_block]; exact hn224_2) | (show (Addr.add _ _).block ≠ _; rw [add_block]; exact hn224_2) | exact hn224_2) (.slice A220_2 ((rd_T43 l0 x8_1).f2).length c220_2)).trans hx224_1; replace hx224_2 := (cell_far (p := ⟨gb221, 2, none⟩) (by first | (rw [add_block]; exact hn224_2) | (show (Addr.add _ _).block ≠ _; rw [add_block]; exact hn224_2) | exact hn224_2) (.slice A220_2 ((rd_T43 l0 x8_1).f2).length c220_2)).trans hx224_2; replace hx224_3 := (cell_far (p := ⟨gb221, 2, none⟩) (by first | (rw [add_block]; exact hn224_2) | (show (Addr.add _ _).block ≠ _; rw [add_block]; exact hn224_2) | exact hn224_2) (.slice A220_2 ((rd_T43 l0 x8_1).f2).length c220_2)).trans hx224_3; replace hx224_0 := (cell_far (p := ⟨gb221, 3, none⟩) (by first | (rw [add_block]; exact hn224_3) | (show (Addr.add _ _).block ≠ _; rw [add_block]; exact hn224_3) | exact hn224_3) (.bool ((rd_T43 l0 x8_1).f3))).trans hx224_0; replace hx224_1 := (cell_far (p := ⟨gb221, 3, none⟩) (by first | (rw [add_block]; exact hn224_3) | (show (Addr.add _ _).block ≠ _; rw [add_block]; exact hn224_3) | exact hn224_3) (.bool ((rd_T43 l0 x8_1).f3))).trans hx224_1; replace hx224_2 := (cell_far (p := ⟨gb221, 3, none⟩) (by first | (rw [add_block]; exact hn224_3) | (show (Addr.add _ _).block ≠ _; rw [add_block]; exact hn224_3) | exact hn224_3) (.bool ((rd_T43 l0 x8_1).f3))).trans hx224_2; replace hx224_3 := (cell_far (p := ⟨gb221, 3, none⟩) (by first | (rw [add_block]; exact hn224_3) | (show (Addr.add _ _).block ≠ _; rw [add_block]; exact hn224_3) | exact hn224_3) (.bool ((rd_T43 l0 x8_1).f3))).trans hx224_3; (try have hy224_0 := fun (n_ : Nat) => (show ((((((w12.drewN n_).setCell ⟨gb221, 0, none⟩ (.int .i64 ((rd_T43 l0 x8_1).f0))).setCell ⟨gb221, 1, none⟩ (.int .i64 ((rd_T43 l0 x8_1).f1))).setCell ⟨gb221, 2, none⟩ (.slice A220_2 ((rd_T43 l0 x8_1).f2).length c220_2)).setCell ⟨gb221, 3, none⟩ (.bool ((rd_T43 l0 x8_1).f3)))).cell? _ = some _ from hx224_0)); (try have hy224_1 := fun (n_ : Nat) => (show ((((((w12.drewN n_).setCell ⟨gb221, 0, none⟩ (.int .i64 ((rd_T43 l0 x8_1).f0))).setCell ⟨gb221, 1, none⟩ (.int .i64 ((rd_T43 l0 x8_1).f1))).setCell ⟨gb221, 2, none⟩ (.slice A220_2 ((rd_T43 l0 x8_1).f2).length c220_2)).setCell ⟨gb221, 3, none⟩ (.bool ((rd_T43 l0 x8_1).f3)))).cell? _ = some _ from hx224_1)); (try have hy224_2 := fun (n_ : Nat) => (show ((((((w12.drewN n_).setCell ⟨gb221, 0, none⟩ (.int .i64 ((rd_T43 l0 x8_1).f0))).setCell ⟨gb221, 1, none⟩ (.int .i64 ((rd_T43 l0 x8_1).f1))).setCell ⟨gb221, 2, none⟩ (.slice A220_2 ((rd_T43 l0 x8_1).f2).length c220_2)).setCell ⟨gb221, 3, none⟩ (.bool ((rd_T43 l0 x8_1).f3)))).cell? _ = some _ from hx224_2)); (try have hy224_3 := fun (n_ : Nat) => (show ((((((w12.drewN n_).setCell ⟨gb221, 0, none⟩ (.int .i64 ((rd_T43 l0 x8_1).f0))).setCell ⟨gb221, 1, none⟩ (.int .i64 ((rd_T43 l0 x8_1).f1))).setCell ⟨gb221, 2, none⟩ (.slice A220_2 ((rd_T43 l0 x8_1).f2).length c220_2)).setCell ⟨gb221, 3, none⟩ (.bool ((rd_T43 l0 x8_1).f3)))).cell? _ = some _ from hx224_3)); clear hn224_0; clear hn224_1; clear hn224_2; clear hn224_3; replace p224 := eq_true p224; replace q224 := eq_true q224)
                      go_wp2_with (first | ((with_reducible refine gate_dst (N := 5) rfl ?_); (try (refine gate_guard (by rfl) ?_; dsimp only)); refine box_event ?hg (N := 5) ?hd (cs := #[.int .i64 0, .int .i64 0, .slice none 0 0, .bool false]) (t := 43) ?hr ?_; (case hd => rfl); (case hg => rfl); (case hr => first | (go_simp; done) | (go_simp; rfl)); intro gb221 hg w12 hbox hb; have n0_ := Aside0.mk (below_step (by repeat (first | (with_reducible first | exact HB.out | apply below_alloc | apply pw_below_drewN | apply below_drew1) | exact HB.out)) hb); have n1_ := Aside0.mk (hbox); have n2_ := Aside0.mk ((by rw [hg]; exact (below_size (by repeat (first | (with_reducible first | exact HB.out | apply below_alloc | apply pw_below_drewN | apply below_drew1) | exact HB.out))) : w.heap.size ≤ gb221)); have n3_ := Aside0.mk ((by rw [hg]; exact (below_size (by repeat (first | (with_reducible first | exact HB.out | apply below_alloc | apply pw_below_drewN | apply below_drew1) | exact HB.out))) : w.heap.size ≤ gb221)); clear HB; have HB := n0_; have BK221 := n1_; have GW221 := n2_; have GE221 := n3_; clear n0_ n1_ n2_ n3_; clear hb hbox hg; have hcz13_0 : w12.cell? ⟨gb221, 0, none⟩ = some (.int .i64 0) := (blk_cell BK221.out 0).trans rfl; have hcz13_1 : w12.cell? ⟨gb221, 1, none⟩ = some (.int .i64 0) := (blk_cell BK221.out 1).trans rfl; have hcz13_2 : w12.cell? ⟨gb221, 2, none⟩ = some (.slice none 0 0) := (blk_cell BK221.out 2).trans rfl; have hcz13_3 : w12.cell? ⟨gb221, 3, none⟩ = some (.bool false) := (blk_cell BK221.out 3).trans rfl; have hfz13_0 := blk_frozen BK221.out 0; have hfz13_1 := blk_frozen BK221.out 1; have hfz13_2 := blk_frozen BK221.out 2; have hfz13_3 := blk_frozen BK221.out 3) | (go_at_call 47; (with_reducible refine (impl_between.calls ((rd_T43 l0 x8_1).f1) ((rd_T43 l0 x8_1).f0) 60 true _ A6.out).mono ?_); rintro e w' ⟨rfl, ⟨nd, rfl⟩⟩; (try first | exact ⟨rfl, _, World.drewN_drewN _ _ _⟩ | exact ⟨rfl, _, Eq.trans (World.drewN_drewN _ _ _) (congrArg (World.drewN _) (Nat.add_assoc _ _ _))⟩)) | (go_at_call 15; (with_reducible refine (impl_ActingOk.calls k1 _ _ ((rd_T43 l0 x8_1).f2) true _ ?side1 ?side2 A8.out).mono ?_); (case side1 => exact Kd.C_below HR220_2.out (by repeat (first | (with_reducible first | exact HB.out | apply below_alloc | apply pw_below_drewN | apply below_drew1 | refine below_set ?_ GE221.out) | exact HB.out))); (case side2 => exact HC220_2.out); rintro e w' ⟨rfl, ⟨nd, rfl⟩⟩; (try first | exact ⟨rfl, _, World.drewN_drewN _ _ _⟩ | exact ⟨rfl, _, Eq.trans (World.drewN_drewN _ _ _) (congrArg (World.drewN _) (Nat.add_assoc _ _ _))⟩); have p224 : 0 ≤ (0 : Int) := (by omega); have q224 : 0 < (l0.length : Int) := of_decide_eq_true (by first | (with_reducible assumption) | assumption); obtain ⟨ad224, A224_2, c224_2, e224, hx224_0, hx224_1, hx224_2, hx224_3, hl224_2, hi224_2⟩ := at_T43 HR0.out 0 p224 q224; obtain rfl : ad220 = ad224 := (by injection e224); have qi224 : (0 < l0.length) = True := eq_true (by omega); (try rw [show ((0 : Int)).toNat = 0 from rfl] at hx224_0); (try rw [show 0 * 4 = 0 from rfl] at hx224_0); (try rw [Addr.add_zero'] at hx224_0); (try rw [show ((0 : Int)).toNat = 0 from rfl] at hx224_1); (try rw [show 0 * 4 = 0 from rfl] at hx224_1); (try rw [Addr.add_zero'] at hx224_1); (try rw [show ((0 : Int)).toNat = 0 from rfl] at hx224_2); (try rw [show 0 * 4 = 0 from rfl] at hx224_2); (try rw [Addr.add_zero'] at hx224_2); (try rw [show ((0 : Int)).toNat = 0 from rfl] at hx224_3); (try rw [show 0 * 4 = 0 from rfl] at hx224_3); (try rw [Addr.add_zero'] at hx224_3); have hn224_0 : ad220.block ≠ gb221 := Nat.ne_of_lt (Nat.lt_of_lt_of_le (by have := World.block_lt_of_cell? _ _ hx224_0; first | rwa [add_block] at this | exact this) GW221.out); have hn224_1 : ad220.block ≠ gb221 := Nat.ne_of_lt (Nat.lt_of_lt_of_le (by have := World.block_lt_of_cell? _ _ hx224_0; first | rwa [add_block] at this | exact this) GW221.out); have hn224_2 : ad220.block ≠ gb221 := Nat.ne_of_lt (Nat.lt_of_lt_of_le (by have := World.block_lt_of_cell? _ _ hx224_0; first | rwa [add_block] at this | exact this) GW221.out); have hn224_3 : ad220.block ≠ gb221 := Nat.ne_of_lt (Nat.lt_of_lt_of_le (by have := World.block_lt_of_cell? _ _ hx224_0; first | rwa [add_block] at this | exact this) GW221.out); replace hx224_0 := (HB.out.cell (World.block_lt_of_cell? w _ hx224_0)).trans hx224_0; replace hx224_1 := (HB.out.cell (World.block_lt_of_cell? w _ hx224_1)).trans hx224_1; replace hx224_2 := (HB.out.cell (World.block_lt_of_cell? w _ hx224_2)).trans hx224_2; replace hx224_3 := (HB.out.cell (World.block_lt_of_cell? w _ hx224_3)).trans hx224_3; have HR224_2 := Aside0.mk hi224_2; have HC224_2 := Aside0.mk hl224_2; clear hi224_2 hl224_2; replace hx224_0 := (cell_far (p := ⟨gb221, 0, none⟩) (by first | (rw [add_block]; exact hn224_0) | (show (Addr.add _ _).block ≠ _; rw [add_block]; exact hn224_0) | exact hn224_0) (.int .i64 ((rd_T43 l0 x8_1).f0))).trans hx224_0; replace hx224_1 := (cell_far (p := ⟨gb221, 0, none⟩) (by first | (rw [add_block]; exact hn224_0) | (show (Addr.add _ _).block ≠ _; rw [add_block]; exact hn224_0) | exact hn224_0) (.int .i64 ((rd_T43 l0 x8_1).f0))).trans hx224_1; replace hx224_2 := (cell_far (p := ⟨gb221, 0, none⟩) (by first | (rw [add_block]; exact hn224_0) | (show (Addr.add _ _).block ≠ _; rw [add_block]; exact hn224_0) | exact hn224_0) (.int .i64 ((rd_T43 l0 x8_1).f0))).trans hx224_2; replace hx224_3 := (cell_far (p := ⟨gb221, 0, none⟩) (by first | (rw [add_block]; exact hn224_0) | (show (Addr.add _ _).block ≠ _; rw [add_block]; exact hn224_0) | exact hn224_0) (.int .i64 ((rd_T43 l0 x8_1).f0))).trans hx224_3; replace hx224_0 := (cell_far (p := ⟨gb221, 1, none⟩) (by first | (rw [add_block]; exact hn224_1) | (show (Addr.add _ _).block ≠ _; rw [add_block]; exact hn224_1) | exact hn224_1) (.int .i64 ((rd_T43 l0 x8_1).f1))).trans hx224_0; replace hx224_1 := (cell_far (p := ⟨gb221, 1, none⟩) (by first | (rw [add_block]; exact hn224_1) | (show (Addr.add _ _).block ≠ _; rw [add_block]; exact hn224_1) | exact hn224_1) (.int .i64 ((rd_T43 l0 x8_1).f1))).trans hx224_1; replace hx224_2 := (cell_far (p := ⟨gb221, 1, none⟩) (by first | (rw [add_block]; exact hn224_1) | (show (Addr.add _ _).block ≠ _; rw [add_block]; exact hn224_1) | exact hn224_1) (.int .i64 ((rd_T43 l0 x8_1).f1))).trans hx224_2; replace hx224_3 := (cell_far (p := ⟨gb221, 1, none⟩) (by first | (rw [add_block]; exact hn224_1) | (show (Addr.add _ _).block ≠ _; rw [add_block]; exact hn224_1) | exact hn224_1) (.int .i64 ((rd_T43 l0 x8_1).f1))).trans hx224_3; replace hx224_0 := (cell_far (p := ⟨gb221, 2, none⟩) (by first | (rw [add_block]; exact hn224_2) | (show (Addr.add _ _).block ≠ _; rw [add_block]; exact hn224_2) | exact hn224_2) (.slice A220_2 ((rd_T43 l0 x8_1).f2).length c220_2)).trans hx224_0; replace hx224_1 := (cell_far (p := ⟨gb221, 2, none⟩) (by first | (rw [add_block]; exact hn224_2) | (show (Addr.add _ _).block ≠ _; rw [add_block]; exact hn224_2) | exact hn224_2) (.slice A220_2 ((rd_T43 l0 x8_1).f2).length c220_2)).trans hx224_1; replace hx224_2 := (cell_far (p := ⟨gb221, 2, none⟩) (by first | (rw [add_block]; exact hn224_2) | (show (Addr.add _ _).block ≠ _; rw [add_block]; exact hn224_2) | exact hn224_2) (.slice A220_2 ((rd_T43 l0 x8_1).f2).length c220_2)).trans hx224_2; replace hx224_3 := (cell_far (p := ⟨gb221, 2, none⟩) (by first | (rw [add_block]; exact hn224_2) | (show (Addr.add _ _).block ≠ _; rw [add_block]; exact hn224_2) | exact hn224_2) (.slice A220_2 ((rd_T43 l0 x8_1).f2).length c220_2)).trans hx224_3; replace hx224_0 := (cell_far (p := ⟨gb221, 3, none⟩) (by first | (rw [add_block]; exact hn224_3) | (show (Addr.add _ _).block ≠ _; rw [add_block]; exact hn224_3) | exact hn224_3) (.bool ((rd_T43 l0 x8_1).f3))).trans hx224_0; replace hx224_1 := (cell_far (p := ⟨gb221, 3, none⟩) (by first | (rw [add_block]; exact hn224_3) | (show (Addr.add _ _).block ≠ _; rw [add_block]; exact hn224_3) | exact hn224_3) (.bool ((rd_T43 l0 x8_1).f3))).trans hx224_1; replace hx224_2 := (cell_far (p := ⟨gb221, 3, none⟩) (by first | (rw [add_block]; exact hn224_3) | (show (Addr.add _ _).block ≠ _; rw [add_block]; exact hn224_3) | exact hn224_3) (.bool ((rd_T43 l0 x8_1).f3))).trans hx224_2; replace hx224_3 := (cell_far (p := ⟨gb221, 3, none⟩) (by first | (rw [add_block]; exact hn224_3) | (show (Addr.add _ _).block ≠ _; rw [add_block]; exact hn224_3) | exact hn224_3) (.bool ((rd_T43 l0 x8_1).f3))).trans hx224_3; (try have hy224_0 := fun (n_ : Nat) => (show ((((((w12.drewN n_).setCell ⟨gb221, 0, none⟩ (.int .i64 ((rd_T43 l0 x8_1).f0))).setCell ⟨gb221, 1, none⟩ (.int .i64 ((rd_T43 l0 x8_1).f1))).setCell ⟨gb221, 2, none⟩ (.slice A220_2 ((rd_T43 l0 x8_1).f2).length c220_2)).setCell ⟨gb221, 3, none⟩ (.bool ((rd_T43 l0 x8_1).f3)))).cell? _ = some _ from hx224_0)); (try have hy224_1 := fun (n_ : Nat) => (show ((((((w12.drewN n_).setCell ⟨gb221, 0, none⟩ (.int .i64 ((rd_T43 l0 x8_1).f0))).setCell ⟨gb221, 1, none⟩ (.int .i64 ((rd_T43 l0 x8_1).f1))).setCell ⟨gb221, 2, none⟩ (.slice A220_2 ((rd_T43 l0 x8_1).f2).length c220_2)).setCell ⟨gb221, 3, none⟩ (.bool ((rd_T43 l0 x8_1).f3)))).cell? _ = some _ from hx224_1)); (try have hy224_2 := fun (n_ : Nat) => (show ((((((w12.drewN n_).setCell ⟨gb221, 0, none⟩ (.int .i64 ((rd_T43 l0 x8_1).f0))).setCell ⟨gb221, 1, none⟩ (.int .i64 ((rd_T43 l0 x8_1).f1))).setCell ⟨gb221, 2, none⟩ (.slice A220_2 ((rd_T43 l0 x8_1).f2).length c220_2)).setCell ⟨gb221, 3, none⟩ (.bool ((rd_T43 l0 x8_1).f3)))).cell? _ = some _ from hx224_2)); (try have hy224_3 := fun (n_ : Nat) => (show ((((((w12.drewN n_).setCell ⟨gb221, 0, none⟩ (.int .i64 ((rd_T43 l0 x8_1).f0))).setCell ⟨gb221, 1, none⟩ (.int .i64 ((rd_T43 l0 x8_1).f1))).setCell ⟨gb221, 2, none⟩ (.slice A220_2 ((rd_T43 l0 x8_1).f2).length c220_2)).setCell ⟨gb221, 3, none⟩ (.bool ((rd_T43 l0 x8_1).f3)))).cell? _ = some _ from hx224_3)); clear hn224_0; clear hn224_1; clear hn224_2; clear hn224_3; replace p224 := eq_true p224; replace q224 := eq_true q224))
                      first | (have hz_ := hy224_3; clear hz_) | (have p224 : 0 ≤ (0 : Int) := (by omega); have q224 : 0 < (l0.length : Int) := of_decide_eq_true (by first | (with_reducible assumption) | assumption); obtain ⟨ad224, A224_2, c224_2, e224, hx224_0, hx224_1, hx224_2, hx224_3, hl224_2, hi224_2⟩ := at_T43 HR0.out 0 p224 q224; obtain rfl : ad220 = ad224 := (by injection e224); have qi224 : (0 < l0.length) = True := eq_true (by omega); (try rw [show ((0 : Int)).toNat = 0 from rfl] at hx224_0); (try rw [show 0 * 4 = 0 from rfl] at hx224_0); (try rw [Addr.add_zero'] at hx224_0); (try rw [show ((0 : Int)).toNat = 0 from rfl] at hx224_1); (try rw [show 0 * 4 = 0 from rfl] at hx224_1); (try rw [Addr.add_zero'] at hx224_1); (try rw [show ((0 : Int)).toNat = 0 from rfl] at hx224_2); (try rw [show 0 * 4 = 0 from rfl] at hx224_2); (try rw [Addr.add_zero'] at hx224_2); (try rw [show ((0 : Int)).toNat = 0 from rfl] at hx224_3); (try rw [show 0 * 4 = 0 from rfl] at hx224_3); (try rw [Addr.add_zero'] at hx224_3); have hn224_0 : ad220.block ≠ gb221 := Nat.ne_of_lt (Nat.lt_of_lt_of_le (by have := World.block_lt_of_cell? _ _ hx224_0; first | rwa [add_block] at this | exact this) GW221.out); have hn224_1 : ad220.block ≠ gb221 := Nat.ne_of_lt (Nat.lt_of_lt_of_le (by have := World.block_lt_of_cell? _ _ hx224_0; first | rwa [add_block] at this | exact this) GW221.out); have hn224_2 : ad220.block ≠ gb221 := Nat.ne_of_lt (Nat.lt_of_lt_of_le (by have := World.block_lt_of_cell? _ _ hx224_0; first | rwa [add_block] at this | exact this) GW221.out); have hn224_3 : ad220.block ≠ gb221 := Nat.ne_of_lt (Nat.lt_of_lt_of_le (by have := World.block_lt_of_cell? _ _ hx224_0; first | rwa [add_block] at this | exact this) GW221.out); replace hx224_0 := (HB.out.cell (World.block_lt_of_cell? w _ hx224_0)).trans hx224_0; replace hx224_1 := (HB.out.cell (World.block_lt_of_cell? w _ hx224_1)).trans hx224_1; replace hx224_2 := (HB.out.cell (World.block_lt_of_cell? w _ hx224_2)).trans hx224_2; replace hx224_3 := (HB.out.cell (World.block_lt_of_cell? w _ hx224_3)).trans hx224_3; have HR224_2 := Aside0.mk hi224_2; have HC224_2 := Aside0.mk hl224_2; clear hi224_2 hl224_2; replace hx224_0 := (cell_far (p := ⟨gb221, 0, none⟩) (by first | (rw [add_block]; exact hn224_0) | (show (Addr.add _ _).block ≠ _; rw [add_block]; exact hn224_0) | exact hn224_0) (.int .i64 ((rd_T43 l0 x8_1).f0))).trans hx224_0; replace hx224_1 := (cell_far (p := ⟨gb221, 0, none⟩) (by first | (rw [add_block]; exact hn224_0) | (show (Addr.add _ _).block ≠ _; rw [add_block]; exact hn224_0) | exact hn224_0) (.int .i64 ((rd_T43 l0 x8_1).f0))).trans hx224_1; replace hx224_2 := (cell_far (p := ⟨gb221, 0, none⟩) (by first | (rw [add_block]; exact hn224_0) | (show (Addr.add _ _).block ≠ _; rw [add_block]; exact hn224_0) | exact hn224_0) (.int .i64 ((rd_T43 l0 x8_1).f0))).trans hx224_2; replace hx224_3 := (cell_far (p := ⟨gb221, 0, none⟩) (by first | (rw [add_block]; exact hn224_0) | (show (Addr.add _ _).block ≠ _; rw [add_block]; exact hn224_0) | exact hn224_0) (.int .i64 ((rd_T43 l0 x8_1).f0))).trans hx224_3; replace hx224_0 := (cell_far (p := ⟨gb221, 1, none⟩) (by first | (rw [add_block]; exact hn224_1) | (show (Addr.add _ _).block ≠ _; rw [add_block]; exact hn224_1) | exact hn224_1) (.int .i64 ((rd_T43 l0 x8_1).f1))).trans hx224_0; replace hx224_1 := (cell_far (p := ⟨gb221, 1, none⟩) (by first | (rw [add_block]; exact hn224_1) | (show (Addr.add _ _).block ≠ _; rw [add_block]; exact hn224_1) | exact hn224_1) (.int .i64 ((rd_T43 l0 x8_1).f1))).trans hx224_1; replace hx224_2 := (cell_far (p := ⟨gb221, 1, none⟩) (by first | (rw [add_block]; exact hn224_1) | (show (Addr.add _ _).block ≠ _; rw [add_block]; exact hn224_1) | exact hn224_1) (.int .i64 ((rd_T43 l0 x8_1).f1))).trans hx224_2; replace hx224_3 := (cell_far (p := ⟨gb221, 1, none⟩) (by first | (rw [add_block]; exact hn224_1) | (show (Addr.add _ _).block ≠ _; rw [add_block]; exact hn224_1) | exact hn224_1) (.int .i64 ((rd_T43 l0 x8_1).f1))).trans hx224_3; replace hx224_0 := (cell_far (p := ⟨gb221, 2, none⟩) (by first | (rw [add_block]; exact hn224_2) | (show (Addr.add _ _).block ≠ _; rw [add_block]; exact hn224_2) | exact hn224_2) (.slice A220_2 ((rd_T43 l0 x8_1).f2).length c220_2)).trans hx224_0; replace hx224_1 := (cell_far (p := ⟨gb221, 2, none⟩) (by first | (rw [add_block]; exact hn224_2) | (show (Addr.add _ _).block ≠ _; rw [add_block]; exact hn224_2) | exact hn224_2) (.slice A220_2 ((rd_T43 l0 x8_1).f2).length c220_2)).trans hx224_1; replace hx224_2 := (cell_far (p := ⟨gb221, 2, none⟩) (by first | (rw [add_block]; exact hn224_2) | (show (Addr.add _ _).block ≠ _; rw [add_block]; exact hn224_2) | exact hn224_2) (.slice A220_2 ((rd_T43 l0 x8_1).f2).length c220_2)).trans hx224_2; replace hx224_3 := (cell_far (p := ⟨gb221, 2, none⟩) (by first | (rw [add_block]; exact hn224_2) | (show (Addr.add _ _).block ≠ _; rw [add_block]; exact hn224_2) | exact hn224_2) (.slice A220_2 ((rd_T43 l0 x8_1).f2).length c220_2)).trans hx224_3; replace hx224_0 := (cell_far (p := ⟨gb221, 3, none⟩) (by first | (rw [add_block]; exact hn224_3) | (show (Addr.add _ _).block ≠ _; rw [add_block]; exact hn224_3) | exact hn224_3) (.bool ((rd_T43 l0 x8_1).f3))).trans hx224_0; replace hx224_1 := (cell_far (p := ⟨gb221, 3, none⟩) (by first | (rw [add_block]; exact hn224_3) | (show (Addr.add _ _).block ≠ _; rw [add_block]; exact hn224_3) | exact hn224_3) (.bool ((rd_T43 l0 x8_1).f3))).trans hx224_1; replace hx224_2 := (cell_far (p := ⟨gb221, 3, none⟩) (by first | (rw [add_block]; exact hn224_3) | (show (Addr.add _ _).block ≠ _; rw [add_block]; exact hn224_3) | exact hn224_3) (.bool ((rd_T43 l0 x8_1).f3))).trans hx224_2; replace hx224_3 := (cell_far (p := ⟨gb221, 3, none⟩) (by first | (rw [add_block]; exact hn224_3) | (show (Addr.add _ _).block ≠ _; rw [add_block]; exact hn224_3) | exact hn224_3) (.bool ((rd_T43 l0 x8_1).f3))).trans hx224_3; (try have hy224_0 := fun (n_ : Nat) => (show ((((((w12.drewN n_).setCell ⟨gb221, 0, none⟩ (.int .i64 ((rd_T43 l0 x8_1).f0))).setCell ⟨gb221, 1, none⟩ (.int .i64 ((rd_T43 l0 x8_1).f1))).setCell ⟨gb221, 2, none⟩ (.slice A220_2 ((rd_T43 l0 x8_1).f2).length c220_2)).setCell ⟨gb221, 3, none⟩ (.bool ((rd_T43 l0 x8_1).f3)))).cell? _ = some _ from hx224_0)); (try have hy224_1 := fun (n_ : Nat) => (show ((((((w12.drewN n_).setCell ⟨gb221, 0, none⟩ (.int .i64 ((rd_T43 l0 x8_1).f0))).setCell ⟨gb221, 1, none⟩ (.int .i64 ((rd_T43 l0 x8_1).f1))).setCell ⟨gb221, 2, none⟩ (.slice A220_2 ((rd_T43 l0 x8_1).f2).length c220_2)).setCell ⟨gb221, 3, none⟩ (.bool ((rd_T43 l0 x8_1).f3)))).cell? _ = some _ from hx224_1)); (try have hy224_2 := fun (n_ : Nat) => (show ((((((w12.drewN n_).setCell ⟨gb221, 0, none⟩ (.int .i64 ((rd_T43 l0 x8_1).f0))).setCell ⟨gb221, 1, none⟩ (.int .i64 ((rd_T43 l0 x8_1).f1))).setCell ⟨gb221, 2, none⟩ (.slice A220_2 ((rd_T43 l0 x8_1).f2).length c220_2)).setCell ⟨gb221, 3, none⟩ (.bool ((rd_T43 l0 x8_1).f3)))).cell? _ = some _ from hx224_2)); (try have hy224_3 := fun (n_ : Nat) => (show ((((((w12.drewN n_).setCell ⟨gb221, 0, none⟩ (.int .i64 ((rd_T43 l0 x8_1).f0))).setCell ⟨gb221, 1, none⟩ (.int .i64 ((rd_T43 l0 x8_1).f1))).setCell ⟨gb221, 2, none⟩ (.slice A220_2 ((rd_T43 l0 x8_1).f2).length c220_2)).setCell ⟨gb221, 3, none⟩ (.bool ((rd_T43 l0 x8_1).f3)))).cell? _ = some _ from hx224_3)); clear hn224_0; clear hn224_1; clear hn224_2; clear hn224_3; replace p224 := eq_true p224; replace q224 := eq_true q224) | skip
                      repeat (go_quiet (first | ((with_reducible refine gate_dst (N := 5) rfl ?_); (try (refine gate_guard (by rfl) ?_; dsimp only)); refine box_event ?hg (N := 5) ?hd (cs := #[.int .i64 0, .int .i64 0, .slice none 0 0, .bool false]) (t := 43) ?hr ?_; (case hd => rfl); (case hg => rfl); (case hr => first | (go_simp; done) | (go_simp; rfl)); intro gb221 hg w12 hbox hb; have n0_ := Aside0.mk (below_step (by repeat (first | (with_reducible first | exact HB.out | apply below_alloc | apply pw_below_drewN | apply below_drew1) | exact HB.out)) hb); have n1_ := Aside0.mk (hbox); have n2_ := Aside0.mk ((by rw [hg]; exact (below_size (by repeat (first | (with_reducible first | exact HB.out | apply below_alloc | apply pw_below_drewN | apply below_drew1) | exact HB.out))) : w.heap.size ≤ gb221)); have n3_ := Aside0.mk ((by rw [hg]; exact (below_size (by repeat (first | (with_reducible first | exact HB.out | apply below_alloc | apply pw_below_drewN | apply below_drew1) | exact HB.out))) : w.heap.size ≤ gb221)); clear HB; have HB := n0_; have BK221 := n1_; have GW221 := n2_; have GE221 := n3_; clear n0_ n1_ n2_ n3_; clear hb hbox hg; have hcz13_0 : w12.cell? ⟨gb221, 0, none⟩ = some (.int .i64 0) := (blk_cell BK221.out 0).trans rfl; have hcz13_1 : w12.cell? ⟨gb221, 1, none⟩ = some (.int .i64 0) := (blk_cell BK221.out 1).trans rfl; have hcz13_2 : w12.cell? ⟨gb221, 2, none⟩ = some (.slice none 0 0) := (blk_cell BK221.out 2).trans rfl; have hcz13_3 : w12.cell? ⟨gb221, 3, none⟩ = some (.bool false) := (blk_cell BK221.out 3).trans rfl; have hfz13_0 := blk_frozen BK221.out 0; have hfz13_1 := blk_frozen BK221.out 1; have hfz13_2 := blk_frozen BK221.out 2; have hfz13_3 := blk_frozen BK221.out 3) | (go_at_call 47; (with_reducible refine (impl_between.calls ((rd_T43 l0 x8_1).f1) ((rd_T43 l0 x8_1).f0) 60 true _ A6.out).mono ?_); rintro e w' ⟨rfl, ⟨nd, rfl⟩⟩; (try first | exact ⟨rfl, _, World.drewN_drewN _ _ _⟩ | exact ⟨rfl, _, Eq.trans (World.drewN_drewN _ _ _) (congrArg (World.drewN _) (Nat.add_assoc _ _ _))⟩)) | (go_at_call 15; (with_reducible refine (impl_ActingOk.calls k1 _ _ ((rd_T43 l0 x8_1).f2) true _ ?side1 ?side2 A8.out).mono ?_); (case side1 => exact Kd.C_below HR220_2.out (by repeat (first | (with_reducible first | exact HB.out | apply below_alloc | apply pw_below_drewN | apply below_drew1 | refine below_set ?_ GE221.out) | exact HB.out))); (case side2 => exact HC220_2.out); rintro e w' ⟨rfl, ⟨nd, rfl⟩⟩; (try first | exact ⟨rfl, _, World.drewN_drewN _ _ _⟩ | exact ⟨rfl, _, Eq.trans (World.drewN_drewN _ _ _) (congrArg (World.drewN _) (Nat.add_assoc _ _ _))⟩))); try go_wp2_with (first | ((with_reducible refine gate_dst (N := 5) rfl ?_); (try (refine gate_guard (by rfl) ?_; dsimp only)); refine box_event ?hg (N := 5) ?hd (cs := #[.int .i64 0, .int .i64 0, .slice none 0 0, .bool false]) (t := 43) ?hr ?_; (case hd => rfl); (case hg => rfl); (case hr => first | (go_simp; done) | (go_simp; rfl)); intro gb221 hg w12 hbox hb; have n0_ := Aside0.mk (below_step (by repeat (first | (with_reducible first | exact HB.out | apply below_alloc | apply pw_below_drewN | apply below_drew1) | exact HB.out)) hb); have n1_ := Aside0.mk (hbox); have n2_ := Aside0.mk ((by rw [hg]; exact (below_size (by repeat (first | (with_reducible first | exact HB.out | apply below_alloc | apply pw_below_drewN | apply below_drew1) | exact HB.out))) : w.heap.size ≤ gb221)); have n3_ := Aside0.mk ((by rw [hg]; exact (below_size (by repeat (first | (with_reducible first | exact HB.out | apply below_alloc | apply pw_below_drewN | apply below_drew1) | exact HB.out))) : w.heap.size ≤ gb221)); clear HB; have HB := n0_; have BK221 := n1_; have GW221 := n2_; have GE221 := n3_; clear n0_ n1_ n2_ n3_; clear hb hbox hg; have hcz13_0 : w12.cell? ⟨gb221, 0, none⟩ = some (.int .i64 0) := (blk_cell BK221.out 0).trans rfl; have hcz13_1 : w12.cell? ⟨gb221, 1, none⟩ = some (.int .i64 0) := (blk_cell BK221.out 1).trans rfl; have hcz13_2 : w12.cell? ⟨gb221, 2, none⟩ = some (.slice none 0 0) := (blk_cell BK221.out 2).trans rfl; have hcz13_3 : w12.cell? ⟨gb221, 3, none⟩ = some (.bool false) := (blk_cell BK221.out 3).trans rfl; have hfz13_0 := blk_frozen BK221.out 0; have hfz13_1 := blk_frozen BK221.out 1; have hfz13_2 := blk_frozen BK221.out 2; have hfz13_3 := blk_frozen BK221.out 3) | (go_at_call 47; (with_reducible refine (impl_between.calls ((rd_T43 l0 x8_1).f1) ((rd_T43 l0 x8_1).f0) 60 true _ A6.out).mono ?_); rintro e w' ⟨rfl, ⟨nd, rfl⟩⟩; (try first | exact ⟨rfl, _, World.drewN_drewN _ _ _⟩ | exact ⟨rfl, _, Eq.trans (World.drewN_drewN _ _ _) (congrArg (World.drewN _) (Nat.add_assoc _ _ _))⟩)) | (go_at_call 15; (with_reducible refine (impl_ActingOk.calls k1 _ _ ((rd_T43 l0 x8_1).f2) true _ ?side1 ?side2 A8.out).mono ?_); (case side1 => exact Kd.C_below HR220_2.out (by repeat (first | (with_reducible first | exact HB.out | apply below_alloc | apply pw_below_drewN | apply below_drew1 | refine below_set ?_ GE221.out) | exact HB.out))); (case side2 => exact HC220_2.out); rintro e w' ⟨rfl, ⟨nd, rfl⟩⟩; (try first | exact ⟨rfl, _, World.drewN_drewN _ _ _⟩ | exact ⟨rfl, _, Eq.trans (World.drewN_drewN _ _ _) (congrArg (World.drewN _) (Nat.add_assoc _ _ _))⟩); have p224 : 0 ≤ (0 : Int) := (by omega); have q224 : 0 < (l0.length : Int) := of_decide_eq_true (by first | (with_reducible assumption) | assumption); obtain ⟨ad224, A224_2, c224_2, e224, hx224_0, hx224_1, hx224_2, hx224_3, hl224_2, hi224_2⟩ := at_T43 HR0.out 0 p224 q224; obtain rfl : ad220 = ad224 := (by injection e224); have qi224 : (0 < l0.length) = True := eq_true (by omega); (try rw [show ((0 : Int)).toNat = 0 from rfl] at hx224_0); (try rw [show 0 * 4 = 0 from rfl] at hx224_0); (try rw [Addr.add_zero'] at hx224_0); (try rw [show ((0 : Int)).toNat = 0 from rfl] at hx224_1); (try rw [show 0 * 4 = 0 from rfl] at hx224_1); (try rw [Addr.add_zero'] at hx224_1); (try rw [show ((0 : Int)).toNat = 0 from rfl] at hx224_2); (try rw [show 0 * 4 = 0 from rfl] at hx224_2); (try rw [Addr.add_zero'] at hx224_2); (try rw [show ((0 : Int)).toNat = 0 from rfl] at hx224_3); (try rw [show 0 * 4 = 0 from rfl] at hx224_3); (try rw [Addr.add_zero'] at hx224_3); have hn224_0 : ad220.block ≠ gb221 := Nat.ne_of_lt (Nat.lt_of_lt_of_le (by have := World.block_lt_of_cell? _ _ hx224_0; first | rwa [add_block] at this | exact this) GW221.out); have hn224_1 : ad220.block ≠ gb221 := Nat.ne_of_lt (Nat.lt_of_lt_of_le (by have := World.block_lt_of_cell? _ _ hx224_0; first | rwa [add_block] at this | exact this) GW221.out); have hn224_2 : ad220.block ≠ gb221 := Nat.ne_of_lt (Nat.lt_of_lt_of_le (by have := World.block_lt_of_cell? _ _ hx224_0; first | rwa [add_block] at this | exact this) GW221.out); have hn224_3 : ad220.block ≠ gb221 := Nat.ne_of_lt (Nat.lt_of_lt_of_le (by have := World.block_lt_of_cell? _ _ hx224_0; first | rwa [add_block] at this | exact this) GW221.out); replace hx224_0 := (HB.out.cell (World.block_lt_of_cell? w _ hx224_0)).trans hx224_0; replace hx224_1 := (HB.out.cell (World.block_lt_of_cell? w _ hx224_1)).trans hx224_1; replace hx224_2 := (HB.out.cell (World.block_lt_of_cell? w _ hx224_2)).trans hx224_2; replace hx224_3 := (HB.out.cell (World.block_lt_of_cell? w _ hx224_3)).trans hx224_3; have HR224_2 := Aside0.mk hi224_2; have HC224_2 := Aside0.mk hl224_2; clear hi224_2 hl224_2; replace hx224_0 := (cell_far (p := ⟨gb221, 0, none⟩) (by first | (rw [add_block]; exact hn224_0) | (show (Addr.add _ _).block ≠ _; rw [add_block]; exact hn224_0) | exact hn224_0) (.int .i64 ((rd_T43 l0 x8_1).f0))).trans hx224_0; replace hx224_1 := (cell_far (p := ⟨gb221, 0, none⟩) (by first | (rw [add_block]; exact hn224_0) | (show (Addr.add _ _).block ≠ _; rw [add_block]; exact hn224_0) | exact hn224_0) (.int .i64 ((rd_T43 l0 x8_1).f0))).trans hx224_1; replace hx224_2 := (cell_far (p := ⟨gb221, 0, none⟩) (by first | (rw [add_block]; exact hn224_0) | (show (Addr.add _ _).block ≠ _; rw [add_block]; exact hn224_0) | exact hn224_0) (.int .i64 ((rd_T43 l0 x8_1).f0))).trans hx224_2; replace hx224_3 := (cell_far (p := ⟨gb221, 0, none⟩) (by first | (rw [add_block]; exact hn224_0) | (show (Addr.add _ _).block ≠ _; rw [add_block]; exact hn224_0) | exact hn224_0) (.int .i64 ((rd_T43 l0 x8_1).f0))).trans hx224_3; replace hx224_0 := (cell_far (p := ⟨gb221, 1, none⟩) (by first | (rw [add_block]; exact hn224_1) | (show (Addr.add _ _).block ≠ _; rw [add_block]; exact hn224_1) | exact hn224_1) (.int .i64 ((rd_T43 l0 x8_1).f1))).trans hx224_0; replace hx224_1 := (cell_far (p := ⟨gb221, 1, none⟩) (by first | (rw [add_block]; exact hn224_1) | (show (Addr.add _ _).block ≠ _; rw [add_block]; exact hn224_1) | exact hn224_1) (.int .i64 ((rd_T43 l0 x8_1).f1))).trans hx224_1; replace hx224_2 := (cell_far (p := ⟨gb221, 1, none⟩) (by first | (rw [add_block]; exact hn224_1) | (show (Addr.add _ _).block ≠ _; rw [add_block]; exact hn224_1) | exact hn224_1) (.int .i64 ((rd_T43 l0 x8_1).f1))).trans hx224_2; replace hx224_3 := (cell_far (p := ⟨gb221, 1, none⟩) (by first | (rw [add_block]; exact hn224_1) | (show (Addr.add _ _).block ≠ _; rw [add_block]; exact hn224_1) | exact hn224_1) (.int .i64 ((rd_T43 l0 x8_1).f1))).trans hx224_3; replace hx224_0 := (cell_far (p := ⟨gb221, 2, none⟩) (by first | (rw [add_block]; exact hn224_2) | (show (Addr.add _ _).block ≠ _; rw [add_block]; exact hn224_2) | exact hn224_2) (.slice A220_2 ((rd_T43 l0 x8_1).f2).length c220_2)).trans hx224_0; replace hx224_1 := (cell_far (p := ⟨gb221, 2, none⟩) (by first | (rw [add_block]; exact hn224_2) | (show (Addr.add _ _).block ≠ _; rw [add_block]; exact hn224_2) | exact hn224_2) (.slice A220_2 ((rd_T43 l0 x8_1).f2).length c220_2)).trans hx224_1; replace hx224_2 := (cell_far (p := ⟨gb221, 2, none⟩) (by first | (rw [add_block]; exact hn224_2) | (show (Addr.add _ _).block ≠ _; rw [add_block]; exact hn224_2) | exact hn224_2) (.slice A220_2 ((rd_T43 l0 x8_1).f2).length c220_2)).trans hx224_2; replace hx224_3 := (cell_far (p := ⟨gb221, 2, none⟩) (by first | (rw [add_block]; exact hn224_2) | (show (Addr.add _ _).block ≠ _; rw [add_block]; exact hn224_2) | exact hn224_2) (.slice A220_2 ((rd_T43 l0 x8_1).f2).length c220_2)).trans hx224_3; replace hx224_0 := (cell_far (p := ⟨gb221, 3, none⟩) (by first | (rw [add_block]; exact hn224_3) | (show (Addr.add _ _).block ≠ _; rw [add_block]; exact hn224_3) | exact hn224_3) (.bool ((rd_T43 l0 x8_1).f3))).trans hx224_0; replace hx224_1 := (cell_far (p := ⟨gb221, 3, none⟩) (by first | (rw [add_block]; exact hn224_3) | (show (Addr.add _ _).block ≠ _; rw [add_block]; exact hn224_3) | exact hn224_3) (.bool ((rd_T43 l0 x8_1).f3))).trans hx224_1; replace hx224_2 := (cell_far (p := ⟨gb221, 3, none⟩) (by first | (rw [add_block]; exact hn224_3) | (show (Addr.add _ _).block ≠ _; rw [add_block]; exact hn224_3) | exact hn224_3) (.bool ((rd_T43 l0 x8_1).f3))).trans hx224_2; replace hx224_3 := (cell_far (p := ⟨gb221, 3, none⟩) (by first | (rw [add_block]; exact hn224_3) | (show (Addr.add _ _).block ≠ _; rw [add_block]; exact hn224_3) | exact hn224_3) (.bool ((rd_T43 l0 x8_1).f3))).trans hx224_3; (try have hy224_0 := fun (n_ : Nat) => (show ((((((w12.drewN n_).setCell ⟨gb221, 0, none⟩ (.int .i64 ((rd_T43 l0 x8_1).f0))).setCell ⟨gb221, 1, none⟩ (.int .i64 ((rd_T43 l0 x8_1).f1))).setCell ⟨gb221, 2, none⟩ (.slice A220_2 ((rd_T43 l0 x8_1).f2).length c220_2)).setCell ⟨gb221, 3, none⟩ (.bool ((rd_T43 l0 x8_1).f3)))).cell? _ = some _ from hx224_0)); (try have hy224_1 := fun (n_ : Nat) => (show ((((((w12.drewN n_).setCell ⟨gb221, 0, none⟩ (.int .i64 ((rd_T43 l0 x8_1).f0))).setCell ⟨gb221, 1, none⟩ (.int .i64 ((rd_T43 l0 x8_1).f1))).setCell ⟨gb221, 2, none⟩ (.slice A220_2 ((rd_T43 l0 x8_1).f2).length c220_2)).setCell ⟨gb221, 3, none⟩ (.bool ((rd_T43 l0 x8_1).f3)))).cell? _ = some _ from hx224_1)); (try have hy224_2 := fun (n_ : Nat) => (show ((((((w12.drewN n_).setCell ⟨gb221, 0, none⟩ (.int .i64 ((rd_T43 l0 x8_1).f0))).setCell ⟨gb221, 1, none⟩ (.int .i64 ((rd_T43 l0 x8_1).f1))).setCell ⟨gb221, 2, none⟩ (.slice A220_2 ((rd_T43 l0 x8_1).f2).length c220_2)).setCell ⟨gb221, 3, none⟩ (.bool ((rd_T43 l0 x8_1).f3)))).cell? _ = some _ from hx224_2)); (try have hy224_3 := fun (n_ : Nat) => (show ((((((w12.drewN n_).setCell ⟨gb221, 0, none⟩ (.int .i64 ((rd_T43 l0 x8_1).f0))).setCell ⟨gb221, 1, none⟩ (.int .i64 ((rd_T43 l0 x8_1).f1))).setCell ⟨gb221, 2, none⟩ (.slice A220_2 ((rd_T43 l0 x8_1).f2).length c220_2)).setCell ⟨gb221, 3, none⟩ (.bool ((rd_T43 l0 x8_1).f3)))).cell? _ = some _ from hx224_3)); clear hn224_0; clear hn224_1; clear hn224_2; clear hn224_3; replace p224 := eq_true p224; replace q224 := eq_true q224)))
                      go_roundg k1
                      case measure => have := HK1.out; omega
                      case rel => exact ⟨(wrap64 (((rd_T43 l0 x8_1).f1) + 1)), (wrap64 (x8_1 + 1)), (by first | rfl | (simp; done) | (simp [*]; done)), (by first | rfl | (simp; done) | (simp [*]; done)), H', ⟨by have := HK1.out; omega⟩, ⟨by repeat (first | (with_reducible first | exact HB.out | apply below_alloc | apply pw_below_drewN | apply below_drew1 | refine below_set ?_ GE221.out) | exact HB.out)⟩⟩
                    · rw [if_neg c11] at H
                      have c11b0 : ((((rd_T43 l0 x8_1).f2).length : Int) == (((rd_T43 l0 0).f2).length : Int)) = false := beq_eq_false_iff_ne.mpr c11
                      have c11b1 : ((((rd_T43 l0 x8_1).f2).length : Int) != (((rd_T43 l0 0).f2).length : Int)) = true := bne_iff_ne.mpr c11
                      have c11b2 : (((rd_T43 l0 x8_1).f2).length == ((rd_T43 l0 0).f2).length) = false := by first | simpa using c11 | (simp at c11 ⊢; omega)
                      obtain rfl := Option.some.inj H
                      have p220 : 0 ≤ (x8_1 : Int) := of_decide_eq_true (by first | (with_reducible assumption) | assumption)
                      have q220 : x8_1 < (l0.length : Int) := of_decide_eq_true (by first | (with_reducible assumption) | assumption)
                      obtain ⟨ad220, A220_2, c220_2, e220, hx220_0, hx220_1, hx220_2, hx220_3, hl220_2, hi220_2⟩ := at_T43 HR0.out x8_1 p220 q220
                      cases e220
                      replace hx220_0 := (HB.out.cell (World.block_lt_of_cell? w _ hx220_0)).trans hx220_0
                      replace hx220_1 := (HB.out.cell (World.block_lt_of_cell? w _ hx220_1)).trans hx220_1
                      replace hx220_2 := (HB.out.cell (World.block_lt_of_cell? w _ hx220_2)).trans hx220_2
                      replace hx220_3 := (HB.out.cell (World.block_lt_of_cell? w _ hx220_3)).trans hx220_3
                      have HR220_2 := Aside0.mk hi220_2
                      have HC220_2 := Aside0.mk hl220_2
                      clear hi220_2 hl220_2
                      replace p220 := eq_true p220
                      replace q220 := eq_true q220
                      try (have p224 : 0 ≤ (0 : Int) := (by omega); have q224 : 0 < (l0.length : Int) := of_decide_eq_true (by first | (with_reducible assumption) | assumption); obtain ⟨ad224, A224_2, c224_2, e224, hx224_0, hx224_1, hx224_2, hx224_3, hl224_2, hi224_2⟩ := at_T43 HR0.out 0 p224 q224; obtain rfl : ad220 = ad224 := (by injection e224); have qi224 : (0 < l0.length) = True := eq_true (by omega); (try rw [show ((0 : Int)).toNat = 0 from rfl] at hx224_0); (try rw [show 0 * 4 = 0 from rfl] at hx224_0); (try rw [Addr.add_zero'] at hx224_0); (try rw [show ((0 : Int)).toNat = 0 from rfl] at hx224_1); (try rw [show 0 * 4 = 0 from rfl] at hx224_1); (try rw [Addr.add_zero'] at hx224_1); (try rw [show ((0 : Int)).toNat = 0 from rfl] at hx224_2); (try rw [show 0 * 4 = 0 from rfl] at hx224_2); (try rw [Addr.add_zero'] at hx224_2); (try rw [show ((0 : Int)).toNat = 0 from rfl] at hx224_3); (try rw [show 0 * 4 = 0 from rfl] at hx224_3); (try rw [Addr.add_zero'] at hx224_3); have hn224_0 : ad220.block ≠ gb221 := Nat.ne_of_lt (Nat.lt_of_lt_of_le (by have := World.block_lt_of_cell? _ _ hx224_0; first | rwa [add_block] at this | exact this) GW221.out); have hn224_1 : ad220.block ≠ gb221 := Nat.ne_of_lt (Nat.lt_of_lt_of_le (by have := World.block_lt_of_cell? _ _ hx224_0; first | rwa [add_block] at this | exact this) GW221.out); have hn224_2 : ad220.block ≠ gb221 := Nat.ne_of_lt (Nat.lt_of_lt_of_le (by have := World.block_lt_of_cell? _ _ hx224_0; first | rwa [add_block] at this | exact this) GW221.out); have hn224_3 : ad220.block ≠ gb221 := Nat.ne_of_lt (Nat.lt_of_lt_of_le (by have := World.block_lt_of_cell? _ _ hx224_0; first | rwa [add_block] at this | exact this) GW221.out); replace hx224_0 := (HB.out.cell (World.block_lt_of_cell? w _ hx224_0)).trans hx224_0; replace hx224_1 := (HB.out.cell (World.block_lt_of_cell? w _ hx224_1)).trans hx224_1; replace hx224_2 := (HB.out.cell (World.block_lt_of_cell? w _ hx224_2)).trans hx224_2; replace hx224_3 := (HB.out.cell (World.block_lt_of_cell? w _ hx224_3)).trans hx224_3; have HR224_2 := Aside0.mk hi224_2; have HC224_2 := Aside0.mk hl224_2; clear hi224_2 hl224_2; replace hx224_0 := (cell_far (p := ⟨gb221, 0, none⟩) (by first | (rw [add_block]; exact hn224_0) | (show (Addr.add _ _).block ≠ _; rw [add_block]; exact hn224_0) | exact hn224_0) (.int .i64 ((rd_T43 l0 x8_1).f0))).trans hx224_0; replace hx224_1 := (cell_far (p := ⟨gb221, 0, none⟩) (by first | (rw [add_block]; exact hn224_0) | (show (Addr.add _ _).block ≠ _; rw [add_block]; exact hn224_0) | exact hn224_0) (.int .i64 ((rd_T43 l0 x8_1).f0))).trans hx224_1; replace hx224_2 := (cell_far (p := ⟨gb221, 0, none⟩) (by first | (rw [add_block]; exact hn224_0) | (show (Addr.add _ _).block ≠ _; rw [add_block]; exact hn224_0) | exact hn224_0) (.int .i64 ((rd_T43 l0 x8_1).f0))).trans hx224_2; replace hx224_3 := (cell_far (p := ⟨gb221, 0, none⟩) (by first | (rw [add_block]; exact hn224_0) | (show (Addr.add _ _).block ≠ _; rw [add_block]; exact hn224_0) | exact hn224_0) (.int .i64 ((rd_T43 l0 x8_1).f0))).trans hx224_3; replace hx224_0 := (cell_far (p := ⟨gb221, 1, none⟩) (by first | (rw [add_block]; exact hn224_1) | (show (Addr.add _ _).block ≠ _; rw [add_block]; exact hn224_1) | exact hn224_1) (.int .i64 ((rd_T43 l0 x8_1).f1))).trans hx224_0; replace hx224_1 := (cell_far (p := ⟨gb221, 1, none⟩) (by first | (rw [add_block]; exact hn224_1) | (show (Addr.add _ _).block ≠ _; rw [add_block]; exact hn224_1) | exact hn224_1) (.int .i64 ((rd_T43 l0 x8_1).f1))).trans hx224_1; replace hx224_2 := (cell_far (p := ⟨gb221, 1, none⟩) (by first | (rw [add_block]; exact hn224_1) | (show (Addr.add _ _).block ≠ _; rw [add_block]; exact hn224_1) | exact hn224_1) (.int .i64 ((rd_T43 l0 x8_1).f1))).trans hx224_2; replace hx224_3 := (cell_far (p := ⟨gb221, 1, none⟩) (by first | (rw [add_block]; exact hn224_1) | (show (Addr.add _ _).block ≠ _; rw [add_block]; exact hn224_1) | exact hn224_1) (.int .i64 ((rd_T43 l0 x8_1).f1))).trans hx224_3; replace hx224_0 := (cell_far (p := ⟨gb221, 2, none⟩) (by first | (rw [add_block]; exact hn224_2) | (show (Addr.add _ _).block ≠ _; rw [add_block]; exact hn224_2) | exact hn224_2) (.slice A220_2 ((rd_T43 l0 x8_1).f2).length c220_2)).trans hx224_0; replace hx224_1 := (cell_far (p := ⟨gb221, 2, none⟩) (by first | (rw [add_block]; exact hn224_2) | (show (Addr.add _ _).block ≠ _; rw [add_block]; exact hn224_2) | exact hn224_2) (.slice A220_2 ((rd_T43 l0 x8_1).f2).length c220_2)).trans hx224_1; replace hx224_2 := (cell_far (p := ⟨gb221, 2, none⟩) (by first | (rw [add_block]; exact hn224_2) | (show (Addr.add _ _).block ≠ _; rw [add_block]; exact hn224_2) | exact hn224_2) (.slice A220_2 ((rd_T43 l0 x8_1).f2).length c220_2)).trans hx224_2; replace hx224_3 := (cell_far (p := ⟨gb221, 2, none⟩) (by first | (rw [add_block]; exact hn224_2) | (show (Addr.add _ _).block ≠ _; rw [add_block]; exact hn224_2) | exact hn224_2) (.slice A220_2 ((rd_T43 l0 x8_1).f2).length c220_2)).trans hx224_3; replace hx224_0 := (cell_far (p := ⟨gb221, 3, none⟩) (by first | (rw [add_block]; exact hn224_3) | (show (Addr.add _ _).block ≠ _; rw [add_block]; exact hn224_3) | exact hn224_3) (.bool ((rd_T43 l0 x8_1).f3))).trans hx224_0; replace hx224_1 := (cell_far (p := ⟨gb221, 3, none⟩) (by first | (rw [add_block]; exact hn224_3) | (show (Addr.add _ _).block ≠ _; rw [add_block]; exact hn224_3) | exact hn224_3) (.bool ((rd_T43 l0 x8_1).f3))).trans hx224_1; replace hx224_2 := (cell_far (p := ⟨gb221, 3, none⟩) (by first | (rw [add_block]; exact hn224_3) | (show (Addr.add _ _).block ≠ _; rw [add_block]; exact hn224_3) | exact hn224_3) (.bool ((rd_T43 l0 x8_1).f3))).trans hx224_2; replace hx224_3 := (cell_far (p := ⟨gb221, 3, none⟩) (by first | (rw [add_block]; exact hn224_3) | (show (Addr.add _ _).block ≠ _; rw [add_block]; exact hn224_3) | exact hn224_3) (.bool ((rd_T43 l0 x8_1).f3))).trans hx224_3; (try have hy224_0 := fun (n_ : Nat) => (show ((((((w14.drewN n_).setCell ⟨gb221, 0, none⟩ (.int .i64 ((rd_T43 l0 x8_1).f0))).setCell ⟨gb221, 1, none⟩ (.int .i64 ((rd_T43 l0 x8_1).f1))).setCell ⟨gb221, 2, none⟩ (.slice A220_2 ((rd_T43 l0 x8_1).f2).length c220_2)).setCell ⟨gb221, 3, none⟩ (.bool ((rd_T43 l0 x8_1).f3)))).cell? _ = some _ from hx224_0)); (try have hy224_1 := fun (n_ : Nat) => (show ((((((w14.drewN n_).setCell ⟨gb221, 0, none⟩ (.int .i64 ((rd_T43 l0 x8_1).f0))).setCell ⟨gb221, 1, none⟩ (.int .i64 ((rd_T43 l0 x8_1).f1))).setCell ⟨gb221, 2, none⟩ (.slice A220_2 ((rd_T43 l0 x8_1).f2).length c220_2)).setCell ⟨gb221, 3, none⟩ (.bool ((rd_T43 l0 x8_1).f3)))).cell? _ = some _ from hx224_1)); (try have hy224_2 := fun (n_ : Nat) => (show ((((((w14.drewN n_).setCell ⟨gb221, 0, none⟩ (.int .i64 ((rd_T43 l0 x8_1).f0))).setCell ⟨gb221, 1, none⟩ (.int .i64 ((rd_T43 l0 x8_1).f1))).setCell ⟨gb221, 2, none⟩ (.slice A220_2 ((rd_T43 l0 x8_1).f2).length c220_2)).setCell ⟨gb221, 3, none⟩ (.bool ((rd_T43 l0 x8_1).f3)))).cell? _ = some _ from hx224_2)); (try have hy224_3 := fun (n_ : Nat) => (show ((((((w14.drewN n_).setCell ⟨gb221, 0, none⟩ (.int .i64 ((rd_T43 l0 x8_1).f0))).setCell ⟨gb221, 1, none⟩ (.int .i64 ((rd_T43 l0 x8_1).f1))).setCell ⟨gb221, 2, none⟩ (.slice A220_2 ((rd_T43 l0 x8_1).f2).length c220_2)).setCell ⟨gb221, 3, none⟩ (.bool ((rd_T43 l0 x8_1).f3)))).cell? _ = some _ from hx224_3)); clear hn224_0; clear hn224_1; clear hn224_2; clear hn224_3; replace p224 := eq_true p224; replace q224 := eq_true q224)
                      go_wp2_with (first | ((with_reducible refine gate_dst (N := 5) rfl ?_); (try (refine gate_guard (by rfl) ?_; dsimp only)); refine box_event ?hg (N := 5) ?hd (cs := #[.int .i64 0, .int .i64 0, .slice none 0 0, .bool false]) (t := 43) ?hr ?_; (case hd => rfl); (case hg => rfl); (case hr => first | (go_simp; done) | (go_simp; rfl)); intro gb221 hg w14 hbox hb; have n0_ := Aside0.mk (below_step (by repeat (first | (with_reducible first | exact HB.out | apply below_alloc | apply pw_below_drewN | apply below_drew1) | exact HB.out)) hb); have n1_ := Aside0.mk (hbox); have n2_ := Aside0.mk ((by rw [hg]; exact (below_size (by repeat (first | (with_reducible first | exact HB.out | apply below_alloc | apply pw_below_drewN | apply below_drew1) | exact HB.out))) : w.heap.size ≤ gb221)); have n3_ := Aside0.mk ((by rw [hg]; exact (below_size (by repeat (first | (with_reducible first | exact HB.out | apply below_alloc | apply pw_below_drewN | apply below_drew1) | exact HB.out))) : w.heap.size ≤ gb221)); clear HB; have HB := n0_; have BK221 := n1_; have GW221 := n2_; have GE221 := n3_; clear n0_ n1_ n2_ n3_; clear hb hbox hg; have hcz15_0 : w14.cell? ⟨gb221, 0, none⟩ = some (.int .i64 0) := (blk_cell BK221.out 0).trans rfl; have hcz15_1 : w14.cell? ⟨gb221, 1, none⟩ = some (.int .i64 0) := (blk_cell BK221.out 1).trans rfl; have hcz15_2 : w14.cell? ⟨gb221, 2, none⟩ = some (.slice none 0 0) := (blk_cell BK221.out 2).trans rfl; have hcz15_3 : w14.cell? ⟨gb221, 3, none⟩ = some (.bool false) := (blk_cell BK221.out 3).trans rfl; have hfz15_0 := blk_frozen BK221.out 0; have hfz15_1 := blk_frozen BK221.out 1; have hfz15_2 := blk_frozen BK221.out 2; have hfz15_3 := blk_frozen BK221.out 3) | (go_at_call 47; (with_reducible refine (impl_between.calls ((rd_T43 l0 x8_1).f1) ((rd_T43 l0 x8_1).f0) 60 true _ A6.out).mono ?_); rintro e w' ⟨rfl, ⟨nd, rfl⟩⟩; (try first | exact ⟨rfl, _, World.drewN_drewN _ _ _⟩ | exact ⟨rfl, _, Eq.trans (World.drewN_drewN _ _ _) (congrArg (World.drewN _) (Nat.add_assoc _ _ _))⟩)) | (go_at_call 15; (with_reducible refine (impl_ActingOk.calls k1 _ _ ((rd_T43 l0 x8_1).f2) true _ ?side1 ?side2 A8.out).mono ?_); (case side1 => exact Kd.C_below HR220_2.out (by repeat (first | (with_reducible first | exact HB.out | apply below_alloc | apply pw_below_drewN | apply below_drew1 | refine below_set ?_ GE221.out) | exact HB.out))); (case side2 => exact HC220_2.out); rintro e w' ⟨rfl, ⟨nd, rfl⟩⟩; (try first | exact ⟨rfl, _, World.drewN_drewN _ _ _⟩ | exact ⟨rfl, _, Eq.trans (World.drewN_drewN _ _ _) (congrArg (World.drewN _) (Nat.add_assoc _ _ _))⟩); have p224 : 0 ≤ (0 : Int) := (by omega); have q224 : 0 < (l0.length : Int) := of_decide_eq_true (by first | (with_reducible assumption) | assumption); obtain ⟨ad224, A224_2, c224_2, e224, hx224_0, hx224_1, hx224_2, hx224_3, hl224_2, hi224_2⟩ := at_T43 HR0.out 0 p224 q224; obtain rfl : ad220 = ad224 := (by injection e224); have qi224 : (0 < l0.length) = True := eq_true (by omega); (try rw [show ((0 : Int)).toNat = 0 from rfl] at hx224_0); (try rw [show 0 * 4 = 0 from rfl] at hx224_0); (try rw [Addr.add_zero'] at hx224_0); (try rw [show ((0 : Int)).toNat = 0 from rfl] at hx224_1); (try rw [show 0 * 4 = 0 from rfl] at hx224_1); (try rw [Addr.add_zero'] at hx224_1); (try rw [show ((0 : Int)).toNat = 0 from rfl] at hx224_2); (try rw [show 0 * 4 = 0 from rfl] at hx224_2); (try rw [Addr.add_zero'] at hx224_2); (try rw [show ((0 : Int)).toNat = 0 from rfl] at hx224_3); (try rw [show 0 * 4 = 0 from rfl] at hx224_3); (try rw [Addr.add_zero'] at hx224_3); have hn224_0 : ad220.block ≠ gb221 := Nat.ne_of_lt (Nat.lt_of_lt_of_le (by have := World.block_lt_of_cell? _ _ hx224_0; first | rwa [add_block] at this | exact this) GW221.out); have hn224_1 : ad220.block ≠ gb221 := Nat.ne_of_lt (Nat.lt_of_lt_of_le (by have := World.block_lt_of_cell? _ _ hx224_0; first | rwa [add_block] at this | exact this) GW221.out); have hn224_2 : ad220.block ≠ gb221 := Nat.ne_of_lt (Nat.lt_of_lt_of_le (by have := World.block_lt_of_cell? _ _ hx224_0; first | rwa [add_block] at this | exact this) GW221.out); have hn224_3 : ad220.block ≠ gb221 := Nat.ne_of_lt (Nat.lt_of_lt_of_le (by have := World.block_lt_of_cell? _ _ hx224_0; first | rwa [add_block] at this | exact this) GW221.out); replace hx224_0 := (HB.out.cell (World.block_lt_of_cell? w _ hx224_0)).trans hx224_0; replace hx224_1 := (HB.out.cell (World.block_lt_of_cell? w _ hx224_1)).trans hx224_1; replace hx224_2 := (HB.out.cell (World.block_lt_of_cell? w _ hx224_2)).trans hx224_2; replace hx224_3 := (HB.out.cell (World.block_lt_of_cell? w _ hx224_3)).trans hx224_3; have HR224_2 := Aside0.mk hi224_2; have HC224_2 := Aside0.mk hl224_2; clear hi224_2 hl224_2; replace hx224_0 := (cell_far (p := ⟨gb221, 0, none⟩) (by first | (rw [add_block]; exact hn224_0) | (show (Addr.add _ _).block ≠ _; rw [add_block]; exact hn224_0) | exact hn224_0) (.int .i64 ((rd_T43 l0 x8_1).f0))).trans hx224_0; replace hx224_1 := (cell_far (p := ⟨gb221, 0, none⟩) (by first | (rw [add_block]; exact hn224_0) | (show (Addr.add _ _).block ≠ _; rw [add_block]; exact hn224_0) | exact hn224_0) (.int .i64 ((rd_T43 l0 x8_1).f0))).trans hx224_1; replace hx224_2 := (cell_far (p := ⟨gb221, 0, none⟩) (by first | (rw [add_block]; exact hn224_0) | (show (Addr.add _ _).block ≠ _; rw [add_block]; exact hn224_0) | exact hn224_0) (.int .i64 ((rd_T43 l0 x8_1).f0))).trans hx224_2; replace hx224_3 := (cell_far (p := ⟨gb221, 0, none⟩) (by first | (rw [add_block]; exact hn224_0) | (show (Addr.add _ _).block ≠ _; rw [add_block]; exact hn224_0) | exact hn224_0) (.int .i64 ((rd_T43 l0 x8_1).f0))).trans hx224_3; replace hx224_0 := (cell_far (p := ⟨gb221, 1, none⟩) (by first | (rw [add_block]; exact hn224_1) | (show (Addr.add _ _).block ≠ _; rw [add_block]; exact hn224_1) | exact hn224_1) (.int .i64 ((rd_T43 l0 x8_1).f1))).trans hx224_0; replace hx224_1 := (cell_far (p := ⟨gb221, 1, none⟩) (by first | (rw [add_block]; exact hn224_1) | (show (Addr.add _ _).block ≠ _; rw [add_block]; exact hn224_1) | exact hn224_1) (.int .i64 ((rd_T43 l0 x8_1).f1))).trans hx224_1; replace hx224_2 := (cell_far (p := ⟨gb221, 1, none⟩) (by first | (rw [add_block]; exact hn224_1) | (show (Addr.add _ _).block ≠ _; rw [add_block]; exact hn224_1) | exact hn224_1) (.int .i64 ((rd_T43 l0 x8_1).f1))).trans hx224_2; replace hx224_3 := (cell_far (p := ⟨gb221, 1, none⟩) (by first | (rw [add_block]; exact hn224_1) | (show (Addr.add _ _).block ≠ _; rw [add_block]; exact hn224_1) | exact hn224_1) (.int .i64 ((rd_T43 l0 x8_1).f1))).trans hx224_3; replace hx224_0 := (cell_far (p := ⟨gb221, 2, none⟩) (by first | (rw [add_block]; exact hn224_2) | (show (Addr.add _ _).block ≠ _; rw [add_block]; exact hn224_2) | exact hn224_2) (.slice A220_2 ((rd_T43 l0 x8_1).f2).length c220_2)).trans hx224_0; replace hx224_1 := (cell_far (p := ⟨gb221, 2, none⟩) (by first | (rw [add_block]; exact hn224_2) | (show (Addr.add _ _).block ≠ _; rw [add_block]; exact hn224_2) | exact hn224_2) (.slice A220_2 ((rd_T43 l0 x8_1).f2).length c220_2)).trans hx224_1; replace hx224_2 := (cell_far (p := ⟨gb221, 2, none⟩) (by first | (rw [add_block]; exact hn224_2) | (show (Addr.add _ _).block ≠ _; rw [add_block]; exact hn224_2) | exact hn224_2) (.slice A220_2 ((rd_T43 l0 x8_1).f2).length c220_2)).trans hx224_2; replace hx224_3 := (cell_far (p := ⟨gb221, 2, none⟩) (by first | (rw [add_block]; exact hn224_2) | (show (Addr.add _ _).block ≠ _; rw [add_block]; exact hn224_2) | exact hn224_2) (.slice A220_2 ((rd_T43 l0 x8_1).f2).length c220_2)).trans hx224_3; replace hx224_0 := (cell_far (p := ⟨gb221, 3, none⟩) (by first | (rw [add_block]; exact hn224_3) | (show (Addr.add _ _).block ≠ _; rw [add_block]; exact hn224_3) | exact hn224_3) (.bool ((rd_T43 l0 x8_1).f3))).trans hx224_0; replace hx224_1 := (cell_far (p := ⟨gb221, 3, none⟩) (by first | (rw [add_block]; exact hn224_3) | (show (Addr.add _ _).block ≠ _; rw [add_block]; exact hn224_3) | exact hn224_3) (.bool ((rd_T43 l0 x8_1).f3))).trans hx224_1; replace hx224_2 := (cell_far (p := ⟨gb221, 3, none⟩) (by first | (rw [add_block]; exact hn224_3) | (show (Addr.add _ _).block ≠ _; rw [add_block]; exact hn224_3) | exact hn224_3) (.bool ((rd_T43 l0 x8_1).f3))).trans hx224_2; replace hx224_3 := (cell_far (p := ⟨gb221, 3, none⟩) (by first | (rw [add_block]; exact hn224_3) | (show (Addr.add _ _).block ≠ _; rw [add_block]; exact hn224_3) | exact hn224_3) (.bool ((rd_T43 l0 x8_1).f3))).trans hx224_3; (try have hy224_0 := fun (n_ : Nat) => (show ((((((w14.drewN n_).setCell ⟨gb221, 0, none⟩ (.int .i64 ((rd_T43 l0 x8_1).f0))).setCell ⟨gb221, 1, none⟩ (.int .i64 ((rd_T43 l0 x8_1).f1))).setCell ⟨gb221, 2, none⟩ (.slice A220_2 ((rd_T43 l0 x8_1).f2).length c220_2)).setCell ⟨gb221, 3, none⟩ (.bool ((rd_T43 l0 x8_1).f3)))).cell? _ = some _ from hx224_0)); (try have hy224_1 := fun (n_ : Nat) => (show ((((((w14.drewN n_).setCell ⟨gb221, 0, none⟩ (.int .i64 ((rd_T43 l0 x8_1).f0))).setCell ⟨gb221, 1, none⟩ (.int .i64 ((rd_T43 l0 x8_1).f1))).setCell ⟨gb221, 2, none⟩ (.slice A220_2 ((rd_T43 l0 x8_1).f2).length c220_2)).setCell ⟨gb221, 3, none⟩ (.bool ((rd_T43 l0 x8_1).f3)))).cell? _ = some _ from hx224_1)); (try have hy224_2 := fun (n_ : Nat) => (show ((((((w14.drewN n_).setCell ⟨gb221, 0, none⟩ (.int .i64 ((rd_T43 l0 x8_1).f0))).setCell ⟨gb221, 1, none⟩ (.int .i64 ((rd_T43 l0 x8_1).f1))).setCell ⟨gb221, 2, none⟩ (.slice A220_2 ((rd_T43 l0 x8_1).f2).length c220_2)).setCell ⟨gb221, 3, none⟩ (.bool ((rd_T43 l0 x8_1).f3)))).cell? _ = some _ from hx224_2)); (try have hy224_3 := fun (n_ : Nat) => (show ((((((w14.drewN n_).setCell ⟨gb221, 0, none⟩ (.int .i64 ((rd_T43 l0 x8_1).f0))).setCell ⟨gb221, 1, none⟩ (.int .i64 ((rd_T43 l0 x8_1).f1))).setCell ⟨gb221, 2, none⟩ (.slice A220_2 ((rd_T43 l0 x8_1).f2).length c220_2)).setCell ⟨gb221, 3, none⟩ (.bool ((rd_T43 l0 x8_1).f3)))).cell? _ = some _ from hx224_3)); clear hn224_0; clear hn224_1; clear hn224_2; clear hn224_3; replace p224 := eq_true p224; replace q224 := eq_true q224))
                      first | (have hz_ := hy224_3; clear hz_) | (have p224 : 0 ≤ (0 : Int) := (by omega); have q224 : 0 < (l0.length : Int) := of_decide_eq_true (by first | (with_reducible assumption) | assumption); obtain ⟨ad224, A224_2, c224_2, e224, hx224_0, hx224_1, hx224_2, hx224_3, hl224_2, hi224_2⟩ := at_T43 HR0.out 0 p224 q224; obtain rfl : ad220 = ad224 := (by injection e224); have qi224 : (0 < l0.length) = True := eq_true (by omega); (try rw [show ((0 : Int)).toNat = 0 from rfl] at hx224_0); (try rw [show 0 * 4 = 0 from rfl] at hx224_0); (try rw [Addr.add_zero'] at hx224_0); (try rw [show ((0 : Int)).toNat = 0 from rfl] at hx224_1); (try rw [show 0 * 4 = 0 from rfl] at hx224_1); (try rw [Addr.add_zero'] at hx224_1); (try rw [show ((0 : Int)).toNat = 0 from rfl] at hx224_2); (try rw [show 0 * 4 = 0 from rfl] at hx224_2); (try rw [Addr.add_zero'] at hx224_2); (try rw [show ((0 : Int)).toNat = 0 from rfl] at hx224_3); (try rw [show 0 * 4 = 0 from rfl] at hx224_3); (try rw [Addr.add_zero'] at hx224_3); have hn224_0 : ad220.block ≠ gb221 := Nat.ne_of_lt (Nat.lt_of_lt_of_le (by have := World.block_lt_of_cell? _ _ hx224_0; first | rwa [add_block] at this | exact this) GW221.out); have hn224_1 : ad220.block ≠ gb221 := Nat.ne_of_lt (Nat.lt_of_lt_of_le (by have := World.block_lt_of_cell? _ _ hx224_0; first | rwa [add_block] at this | exact this) GW221.out); have hn224_2 : ad220.block ≠ gb221 := Nat.ne_of_lt (Nat.lt_of_lt_of_le (by have := World.block_lt_of_cell? _ _ hx224_0; first | rwa [add_block] at this | exact this) GW221.out); have hn224_3 : ad220.block ≠ gb221 := Nat.ne_of_lt (Nat.lt_of_lt_of_le (by have := World.block_lt_of_cell? _ _ hx224_0; first | rwa [add_block] at this | exact this) GW221.out); replace hx224_0 := (HB.out.cell (World.block_lt_of_cell? w _ hx224_0)).trans hx224_0; replace hx224_1 := (HB.out.cell (World.block_lt_of_cell? w _ hx224_1)).trans hx224_1; replace hx224_2 := (HB.out.cell (World.block_lt_of_cell? w _ hx224_2)).trans hx224_2; replace hx224_3 := (HB.out.cell (World.block_lt_of_cell? w _ hx224_3)).trans hx224_3; have HR224_2 := Aside0.mk hi224_2; have HC224_2 := Aside0.mk hl224_2; clear hi224_2 hl224_2; replace hx224_0 := (cell_far (p := ⟨gb221, 0, none⟩) (by first | (rw [add_block]; exact hn224_0) | (show (Addr.add _ _).block ≠ _; rw [add_block]; exact hn224_0) | exact hn224_0) (.int .i64 ((rd_T43 l0 x8_1).f0))).trans hx224_0; replace hx224_1 := (cell_far (p := ⟨gb221, 0, none⟩) (by first | (rw [add_block]; exact hn224_0) | (show (Addr.add _ _).block ≠ _; rw [add_block]; exact hn224_0) | exact hn224_0) (.int .i64 ((rd_T43 l0 x8_1).f0))).trans hx224_1; replace hx224_2 := (cell_far (p := ⟨gb221, 0, none⟩) (by first | (rw [add_block]; exact hn224_0) | (show (Addr.add _ _).block ≠ _; rw [add_block]; exact hn224_0) | exact hn224_0) (.int .i64 ((rd_T43 l0 x8_1).f0))).trans hx224_2; replace hx224_3 := (cell_far (p := ⟨gb221, 0, none⟩) (by first | (rw [add_block]; exact hn224_0) | (show (Addr.add _ _).block ≠ _; rw [add_block]; exact hn224_0) | exact hn224_0) (.int .i64 ((rd_T43 l0 x8_1).f0))).trans hx224_3; replace hx224_0 := (cell_far (p := ⟨gb221, 1, none⟩) (by first | (rw [add_block]; exact hn224_1) | (show (Addr.add _ _).block ≠ _; rw [add_block]; exact hn224_1) | exact hn224_1) (.int .i64 ((rd_T43 l0 x8_1).f1))).trans hx224_0; replace hx224_1 := (cell_far (p := ⟨gb221, 1, none⟩) (by first | (rw [add_block]; exact hn224_1) | (show (Addr.add _ _).block ≠ _; rw [add_block]; exact hn224_1) | exact hn224_1) (.int .i64 ((rd_T43 l0 x8_1).f1))).trans hx224_1; replace hx224_2 := (cell_far (p := ⟨gb221, 1, none⟩) (by first | (rw [add_block]; exact hn224_1) | (show (Addr.add _ _).block ≠ _; rw [add_block]; exact hn224_1) | exact hn224_1) (.int .i64 ((rd_T43 l0 x8_1).f1))).trans hx224_2; replace hx224_3 := (cell_far (p := ⟨gb221, 1, none⟩) (by first | (rw [add_block]; exact hn224_1) | (show (Addr.add _ _).block ≠ _; rw [add_block]; exact hn224_1) | exact hn224_1) (.int .i64 ((rd_T43 l0 x8_1).f1))).trans hx224_3; replace hx224_0 := (cell_far (p := ⟨gb221, 2, none⟩) (by first | (rw [add_block]; exact hn224_2) | (show (Addr.add _ _).block ≠ _; rw [add_block]; exact hn224_2) | exact hn224_2) (.slice A220_2 ((rd_T43 l0 x8_1).f2).length c220_2)).trans hx224_0; replace hx224_1 := (cell_far (p := ⟨gb221, 2, none⟩) (by first | (rw [add_block]; exact hn224_2) | (show (Addr.add _ _).block ≠ _; rw [add_block]; exact hn224_2) | exact hn224_2) (.slice A220_2 ((rd_T43 l0 x8_1).f2).length c220_2)).trans hx224_1; replace hx224_2 := (cell_far (p := ⟨gb221, 2, none⟩) (by first | (rw [add_block]; exact hn224_2) | (show (Addr.add _ _).block ≠ _; rw [add_block]; exact hn224_2) | exact hn224_2) (.slice A220_2 ((rd_T43 l0 x8_1).f2).length c220_2)).trans hx224_2; replace hx224_3 := (cell_far (p := ⟨gb221, 2, none⟩) (by first | (rw [add_block]; exact hn224_2) | (show (Addr.add _ _).block ≠ _; rw [add_block]; exact hn224_2) | exact hn224_2) (.slice A220_2 ((rd_T43 l0 x8_1).f2).length c220_2)).trans hx224_3; replace hx224_0 := (cell_far (p := ⟨gb221, 3, none⟩) (by first | (rw [add_block]; exact hn224_3) | (show (Addr.add _ _).block ≠ _; rw [add_block]; exact hn224_3) | exact hn224_3) (.bool ((rd_T43 l0 x8_1).f3))).trans hx224_0; replace hx224_1 := (cell_far (p := ⟨gb221, 3, none⟩) (by first | (rw [add_block]; exact hn224_3) | (show (Addr.add _ _).block ≠ _; rw [add_block]; exact hn224_3) | exact hn224_3) (.bool ((rd_T43 l0 x8_1).f3))).trans hx224_1; replace hx224_2 := (cell_far (p := ⟨gb221, 3, none⟩) (by first | (rw [add_block]; exact hn224_3) | (show (Addr.add _ _).block ≠ _; rw [add_block]; exact hn224_3) | exact hn224_3) (.bool ((rd_T43 l0 x8_1).f3))).trans hx224_2; replace hx224_3 := (cell_far (p := ⟨gb221, 3, none⟩) (by first | (rw [add_block]; exact hn224_3) | (show (Addr.add _ _).block ≠ _; rw [add_block]; exact hn224_3) | exact hn224_3) (.bool ((rd_T43 l0 x8_1).f3))).trans hx224_3; (try have hy224_0 := fun (n_ : Nat) => (show ((((((w14.drewN n_).setCell ⟨gb221, 0, none⟩ (.int .i64 ((rd_T43 l0 x8_1).f0))).setCell ⟨gb221, 1, none⟩ (.int .i64 ((rd_T43 l0 x8_1).f1))).setCell ⟨gb221, 2, none⟩ (.slice A220_2 ((rd_T43 l0 x8_1).f2).length c220_2)).setCell ⟨gb221, 3, none⟩ (.bool ((rd_T43 l0 x8_1).f3)))).cell? _ = some _ from hx224_0)); (try have hy224_1 := fun (n_ : Nat) => (show ((((((w14.drewN n_).setCell ⟨gb221, 0, none⟩ (.int .i64 ((rd_T43 l0 x8_1).f0))).setCell ⟨gb221, 1, none⟩ (.int .i64 ((rd_T43 l0 x8_1).f1))).setCell ⟨gb221, 2, none⟩ (.slice A220_2 ((rd_T43 l0 x8_1).f2).length c220_2)).setCell ⟨gb221, 3, none⟩ (.bool ((rd_T43 l0 x8_1).f3)))).cell? _ = some _ from hx224_1)); (try have hy224_2 := fun (n_ : Nat) => (show ((((((w14.drewN n_).setCell ⟨gb221, 0, none⟩ (.int .i64 ((rd_T43 l0 x8_1).f0))).setCell ⟨gb221, 1, none⟩ (.int .i64 ((rd_T43 l0 x8_1).f1))).setCell ⟨gb221, 2, none⟩ (.slice A220_2 ((rd_T43 l0 x8_1).f2).length c220_2)).setCell ⟨gb221, 3, none⟩ (.bool ((rd_T43 l0 x8_1).f3)))).cell? _ = some _ from hx224_2)); (try have hy224_3 := fun (n_ : Nat) => (show ((((((w14.drewN n_).setCell ⟨gb221, 0, none⟩ (.int .i64 ((rd_T43 l0 x8_1).f0))).setCell ⟨gb221, 1, none⟩ (.int .i64 ((rd_T43 l0 x8_1).f1))).setCell ⟨gb221, 2, none⟩ (.slice A220_2 ((rd_T43 l0 x8_1).f2).length c220_2)).setCell ⟨gb221, 3, none⟩ (.bool ((rd_T43 l0 x8_1).f3)))).cell? _ = some _ from hx224_3)); clear hn224_0; clear hn224_1; clear hn224_2; clear hn224_3; replace p224 := eq_true p224; replace q224 := eq_true q224) | skip
                      repeat (go_quiet (first | ((with_reducible refine gate_dst (N := 5) rfl ?_); (try (refine gate_guard (by rfl) ?_; dsimp only)); refine box_event ?hg (N := 5) ?hd (cs := #[.int .i64 0, .int .i64 0, .slice none 0 0, .bool false]) (t := 43) ?hr ?_; (case hd => rfl); (case hg => rfl); (case hr => first | (go_simp; done) | (go_simp; rfl)); intro gb221 hg w14 hbox hb; have n0_ := Aside0.mk (below_step (by repeat (first | (with_reducible first | exact HB.out | apply below_alloc | apply pw_below_drewN | apply below_drew1) | exact HB.out)) hb); have n1_ := Aside0.mk (hbox); have n2_ := Aside0.mk ((by rw [hg]; exact (below_size (by repeat (first | (with_reducible first | exact HB.out | apply below_alloc | apply pw_below_drewN | apply below_drew1) | exact HB.out))) : w.heap.size ≤ gb221)); have n3_ := Aside0.mk ((by rw [hg]; exact (below_size (by repeat (first | (with_reducible first | exact HB.out | apply below_alloc | apply pw_below_drewN | apply below_drew1) | exact HB.out))) : w.heap.size ≤ gb221)); clear HB; have HB := n0_; have BK221 := n1_; have GW221 := n2_; have GE221 := n3_; clear n0_ n1_ n2_ n3_; clear hb hbox hg; have hcz15_0 : w14.cell? ⟨gb221, 0, none⟩ = some (.int .i64 0) := (blk_cell BK221.out 0).trans rfl; have hcz15_1 : w14.cell? ⟨gb221, 1, none⟩ = some (.int .i64 0) := (blk_cell BK221.out 1).trans rfl; have hcz15_2 : w14.cell? ⟨gb221, 2, none⟩ = some (.slice none 0 0) := (blk_cell BK221.out 2).trans rfl; have hcz15_3 : w14.cell? ⟨gb221, 3, none⟩ = some (.bool false) := (blk_cell BK221.out 3).trans rfl; have hfz15_0 := blk_frozen BK221.out 0; have hfz15_1 := blk_frozen BK221.out 1; have hfz15_2 := blk_frozen BK221.out 2; have hfz15_3 := blk_frozen BK221.out 3) | (go_at_call 47; (with_reducible refine (impl_between.calls ((rd_T43 l0 x8_1).f1) ((rd_T43 l0 x8_1).f0) 60 true _ A6.out).mono ?_); rintro e w' ⟨rfl, ⟨nd, rfl⟩⟩; (try first | exact ⟨rfl, _, World.drewN_drewN _ _ _⟩ | exact ⟨rfl, _, Eq.trans (World.drewN_drewN _ _ _) (congrArg (World.drewN _) (Nat.add_assoc _ _ _))⟩)) | (go_at_call 15; (with_reducible refine (impl_ActingOk.calls k1 _ _ ((rd_T43 l0 x8_1).f2) true _ ?side1 ?side2 A8.out).mono ?_); (case side1 => exact Kd.C_below HR220_2.out (by repeat (first | (with_reducible first | exact HB.out | apply below_alloc | apply pw_below_drewN | apply below_drew1 | refine below_set ?_ GE221.out) | exact HB.out))); (case side2 => exact HC220_2.out); rintro e w' ⟨rfl, ⟨nd, rfl⟩⟩; (try first | exact ⟨rfl, _, World.drewN_drewN _ _ _⟩ | exact ⟨rfl, _, Eq.trans (World.drewN_drewN _ _ _) (congrArg (World.drewN _) (Nat.add_assoc _ _ _))⟩))); try go_wp2_with (first | ((with_reducible refine gate_dst (N := 5) rfl ?_); (try (refine gate_guard (by rfl) ?_; dsimp only)); refine box_event ?hg (N := 5) ?hd (cs := #[.int .i64 0, .int .i64 0, .slice none 0 0, .bool false]) (t := 43) ?hr ?_; (case hd => rfl); (case hg => rfl); (case hr => first | (go_simp; done) | (go_simp; rfl)); intro gb221 hg w14 hbox hb; have n0_ := Aside0.mk (below_step (by repeat (first | (with_reducible first | exact HB.out | apply below_alloc | apply pw_below_drewN | apply below_drew1) | exact HB.out)) hb); have n1_ := Aside0.mk (hbox); have n2_ := Aside0.mk ((by rw [hg]; exact (below_size (by repeat (first | (with_reducible first | exact HB.out | apply below_alloc | apply pw_below_drewN | apply below_drew1) | exact HB.out))) : w.heap.size ≤ gb221)); have n3_ := Aside0.mk ((by rw [hg]; exact (below_size (by repeat (first | (with_reducible first | exact HB.out | apply below_alloc | apply pw_below_drewN | apply below_drew1) | exact HB.out))) : w.heap.size ≤ gb221)); clear HB; have HB := n0_; have BK221 := n1_; have GW221 := n2_; have GE221 := n3_; clear n0_ n1_ n2_ n3_; clear hb hbox hg; have hcz15_0 : w14.cell? ⟨gb221, 0, none⟩ = some (.int .i64 0) := (blk_cell BK221.out 0).trans rfl; have hcz15_1 : w14.cell? ⟨gb221, 1, none⟩ = some (.int .i64 0) := (blk_cell BK221.out 1).trans rfl; have hcz15_2 : w14.cell? ⟨gb221, 2, none⟩ = some (.slice none 0 0) := (blk_cell BK221.out 2).trans rfl; have hcz15_3 : w14.cell? ⟨gb221, 3, none⟩ = some (.bool false) := (blk_cell BK221.out 3).trans rfl; have hfz15_0 := blk_frozen BK221.out 0; have hfz15_1 := blk_frozen BK221.out 1; have hfz15_2 := blk_frozen BK221.out 2; have hfz15_3 := blk_frozen BK221.out 3) | (go_at_call 47; (with_reducible refine (impl_between.calls ((rd_T43 l0 x8_1).f1) ((rd_T43 l0 x8_1).f0) 60 true _ A6.out).mono ?_); rintro e w' ⟨rfl, ⟨nd, rfl⟩⟩; (try first | exact ⟨rfl, _, World.drewN_drewN _ _ _⟩ | exact ⟨rfl, _, Eq.trans (World.drewN_drewN _ _ _) (congrArg (World.drewN _) (Nat.add_assoc _ _ _))⟩)) | (go_at_call 15; (with_reducible refine (impl_ActingOk.calls k1 _ _ ((rd_T43 l0 x8_1).f2) true _ ?side1 ?side2 A8.out).mono ?_); (case side1 => exact Kd.C_below HR220_2.out (by repeat (first | (with_reducible first | exact HB.out | apply below_alloc | apply pw_below_drewN | apply below_drew1 | refine below_set ?_ GE221.out) | exact HB.out))); (case side2 => exact HC220_2.out); rintro e w' ⟨rfl, ⟨nd, rfl⟩⟩; (try first | exact ⟨rfl, _, World.drewN_drewN _ _ _⟩ | exact ⟨rfl, _, Eq.trans (World.drewN_drewN _ _ _) (congrArg (World.drewN _) (Nat.add_assoc _ _ _))⟩); have p224 : 0 ≤ (0 : Int) := (by omega); have q224 : 0 < (l0.length : Int) := of_decide_eq_true (by first | (with_reducible assumption) | assumption); obtain ⟨ad224, A224_2, c224_2, e224, hx224_0, hx224_1, hx224_2, hx224_3, hl224_2, hi224_2⟩ := at_T43 HR0.out 0 p224 q224; obtain rfl : ad220 = ad224 := (by injection e224); have qi224 : (0 < l0.length) = True := eq_true (by omega); (try rw [show ((0 : Int)).toNat = 0 from rfl] at hx224_0); (try rw [show 0 * 4 = 0 from rfl] at hx224_0); (try rw [Addr.add_zero'] at hx224_0); (try rw [show ((0 : Int)).toNat = 0 from rfl] at hx224_1); (try rw [show 0 * 4 = 0 from rfl] at hx224_1); (try rw [Addr.add_zero'] at hx224_1); (try rw [show ((0 : Int)).toNat = 0 from rfl] at hx224_2); (try rw [show 0 * 4 = 0 from rfl] at hx224_2); (try rw [Addr.add_zero'] at hx224_2); (try rw [show ((0 : Int)).toNat = 0 from rfl] at hx224_3); (try rw [show 0 * 4 = 0 from rfl] at hx224_3); (try rw [Addr.add_zero'] at hx224_3); have hn224_0 : ad220.block ≠ gb221 := Nat.ne_of_lt (Nat.lt_of_lt_of_le (by have := World.block_lt_of_cell? _ _ hx224_0; first | rwa [add_block] at this | exact this) GW221.out); have hn224_1 : ad220.block ≠ gb221 := Nat.ne_of_lt (Nat.lt_of_lt_of_le (by have := World.block_lt_of_cell? _ _ hx224_0; first | rwa [add_block] at this | exact this) GW221.out); have hn224_2 : ad220.block ≠ gb221 := Nat.ne_of_lt (Nat.lt_of_lt_of_le (by have := World.block_lt_of_cell? _ _ hx224_0; first | rwa [add_block] at this | exact this) GW221.out); have hn224_3 : ad220.block ≠ gb221 := Nat.ne_of_lt (Nat.lt_of_lt_of_le (by have := World.block_lt_of_cell? _ _ hx224_0; first | rwa [add_block] at this | exact this) GW221.out); replace hx224_0 := (HB.out.cell (World.block_lt_of_cell? w _ hx224_0)).trans hx224_0; replace hx224_1 := (HB.out.cell (World.block_lt_of_cell? w _ hx224_1)).trans hx224_1; replace hx224_2 := (HB.out.cell (World.block_lt_of_cell? w _ hx224_2)).trans hx224_2; replace hx224_3 := (HB.out.cell (World.block_lt_of_cell? w _ hx224_3)).trans hx224_3; have HR224_2 := Aside0.mk hi224_2; have HC224_2 := Aside0.mk hl224_2; clear hi224_2 hl224_2; replace hx224_0 := (cell_far (p := ⟨gb221, 0, none⟩) (by first | (rw [add_block]; exact hn224_0) | (show (Addr.add _ _).block ≠ _; rw [add_block]; exact hn224_0) | exact hn224_0) (.int .i64 ((rd_T43 l0 x8_1).f0))).trans hx224_0; replace hx224_1 := (cell_far (p := ⟨gb221, 0, none⟩) (by first | (rw [add_block]; exact hn224_0) | (show (Addr.add _ _).block ≠ _; rw [add_block]; exact hn224_0) | exact hn224_0) (.int .i64 ((rd_T43 l0 x8_1).f0))).trans hx224_1; replace hx224_2 := (cell_far (p := ⟨gb221, 0, none⟩) (by first | (rw [add_block]; exact hn224_0) | (show (Addr.add _ _).block ≠ _; rw [add_block]; exact hn224_0) | exact hn224_0) (.int .i64 ((rd_T43 l0 x8_1).f0))).trans hx224_2; replace hx224_3 := (cell_far (p := ⟨gb221, 0, none⟩) (by first | (rw [add_block]; exact hn224_0) | (show (Addr.add _ _).block ≠ _; rw [add_block]; exact hn224_0) | exact hn224_0) (.int .i64 ((rd_T43 l0 x8_1).f0))).trans hx224_3; replace hx224_0 := (cell_far (p := ⟨gb221, 1, none⟩) (by first | (rw [add_block]; exact hn224_1) | (show (Addr.add _ _).block ≠ _; rw [add_block]; exact hn224_1) | exact hn224_1) (.int .i64 ((rd_T43 l0 x8_1).f1))).trans hx224_0; replace hx224_1 := (cell_far (p := ⟨gb221, 1, none⟩) (by first | (rw [add_block]; exact hn224_1) | (show (Addr.add _ _).block ≠ _; rw [add_block]; exact hn224_1) | exact hn224_1) (.int .i64 ((rd_T43 l0 x8_1).f1))).trans hx224_1; replace hx224_2 := (cell_far (p := ⟨gb221, 1, none⟩) (by first | (rw [add_block]; exact hn224_1) | (show (Addr.add _ _).block ≠ _; rw [add_block]; exact hn224_1) | exact hn224_1) (.int .i64 ((rd_T43 l0 x8_1).f1))).trans hx224_2; replace hx224_3 := (cell_far (p := ⟨gb221, 1, none⟩) (by first | (rw [add_block]; exact hn224_1) | (show (Addr.add _ _).block ≠ _; rw [add_block]; exact hn224_1) | exact hn224_1) (.int .i64 ((rd_T43 l0 x8_1).f1))).trans hx224_3; replace hx224_0 := (cell_far (p := ⟨gb221, 2, none⟩) (by first | (rw [add_block]; exact hn224_2) | (show (Addr.add _ _).block ≠ _; rw [add_block]; exact hn224_2) | exact hn224_2) (.slice A220_2 ((rd_T43 l0 x8_1).f2).length c220_2)).trans hx224_0; replace hx224_1 := (cell_far (p := ⟨gb221, 2, none⟩) (by first | (rw [add_block]; exact hn224_2) | (show (Addr.add _ _).block ≠ _; rw [add_block]; exact hn224_2) | exact hn224_2) (.slice A220_2 ((rd_T43 l0 x8_1).f2).length c220_2)).trans hx224_1; replace hx224_2 := (cell_far (p := ⟨gb221, 2, none⟩) (by first | (rw [add_block]; exact hn224_2) | (show (Addr.add _ _).block ≠ _; rw [add_block]; exact hn224_2) | exact hn224_2) (.slice A220_2 ((rd_T43 l0 x8_1).f2).length c220_2)).trans hx224_2; replace hx224_3 := (cell_far (p := ⟨gb221, 2, none⟩) (by first | (rw [add_block]; exact hn224_2) | (show (Addr.add _ _).block ≠ _; rw [add_block]; exact hn224_2) | exact hn224_2) (.slice A220_2 ((rd_T43 l0 x8_1).f2).length c220_2)).trans hx224_3; replace hx224_0 := (cell_far (p := ⟨gb221, 3, none⟩) (by first | (rw [add_block]; exact hn224_3) | (show (Addr.add _ _).block ≠ _; rw [add_block]; exact hn224_3) | exact hn224_3) (.bool ((rd_T43 l0 x8_1).f3))).trans hx224_0; replace hx224_1 := (cell_far (p := ⟨gb221, 3, none⟩) (by first | (rw [add_block]; exact hn224_3) | (show (Addr.add _ _).block ≠ _; rw [add_block]; exact hn224_3) | exact hn224_3) (.bool ((rd_T43 l0 x8_1).f3))).trans hx224_1; replace hx224_2 := (cell_far (p := ⟨gb221, 3, none⟩) (by first | (rw [add_block]; exact hn224_3) | (show (Addr.add _ _).block ≠ _; rw [add_block]; exact hn224_3) | exact hn224_3) (.bool ((rd_T43 l0 x8_1).f3))).trans hx224_2; replace hx224_3 := (cell_far (p := ⟨gb221, 3, none⟩) (by first | (rw [add_block]; exact hn224_3) | (show (Addr.add _ _).block ≠ _; rw [add_block]; exact hn224_3) | exact hn224_3) (.bool ((rd_T43 l0 x8_1).f3))).trans hx224_3; (try have hy224_0 := fun (n_ : Nat) => (show ((((((w14.drewN n_).setCell ⟨gb221, 0, none⟩ (.int .i64 ((rd_T43 l0 x8_1).f0))).setCell ⟨gb221, 1, none⟩ (.int .i64 ((rd_T43 l0 x8_1).f1))).setCell ⟨gb221, 2, none⟩ (.slice A220_2 ((rd_T43 l0 x8_1).f2).length c220_2)).setCell ⟨gb221, 3, none⟩ (.bool ((rd_T43 l0 x8_1).f3)))).cell? _ = some _ from hx224_0)); (try have hy224_1 := fun (n_ : Nat) => (show ((((((w14.drewN n_).setCell ⟨gb221, 0, none⟩ (.int .i64 ((rd_T43 l0 x8_1).f0))).setCell ⟨gb221, 1, none⟩ (.int .i64 ((rd_T43 l0 x8_1).f1))).setCell ⟨gb221, 2, none⟩ (.slice A220_2 ((rd_T43 l0 x8_1).f2).length c220_2)).setCell ⟨gb221, 3, none⟩ (.bool ((rd_T43 l0 x8_1).f3)))).cell? _ = some _ from hx224_1)); (try have hy224_2 := fun (n_ : Nat) => (show ((((((w14.drewN n_).setCell ⟨gb221, 0, none⟩ (.int .i64 ((rd_T43 l0 x8_1).f0))).setCell ⟨gb221, 1, none⟩ (.int .i64 ((rd_T43 l0 x8_1).f1))).setCell ⟨gb221, 2, none⟩ (.slice A220_2 ((rd_T43 l0 x8_1).f2).length c220_2)).setCell ⟨gb221, 3, none⟩ (.bool ((rd_T43 l0 x8_1).f3)))).cell? _ = some _ from hx224_2)); (try have hy224_3 := fun (n_ : Nat) => (show ((((((w14.drewN n_).setCell ⟨gb221, 0, none⟩ (.int .i64 ((rd_T43 l0 x8_1).f0))).setCell ⟨gb221, 1, none⟩ (.int .i64 ((rd_T43 l0 x8_1).f1))).setCell ⟨gb221, 2, none⟩ (.slice A220_2 ((rd_T43 l0 x8_1).f2).length c220_2)).setCell ⟨gb221, 3, none⟩ (.bool ((rd_T43 l0 x8_1).f3)))).cell? _ = some _ from hx224_3)); clear hn224_0; clear hn224_1; clear hn224_2; clear hn224_3; replace p224 := eq_true p224; replace q224 := eq_true q224)))
                      go_ret
                      exact ⟨by first | rfl | (simp [errW_none, errW_some] <;> rfl) | (simp [*, errW_none, errW_some] <;> rfl), by repeat (first | (with_reducible first | exact HB.out | apply below_alloc | apply pw_below_drewN | apply below_drew1 | refine below_set ?_ GE221.out) | exact HB.out)⟩
                  · rw [if_neg c10] at H
                    exact absurd H (by simp)
                · replace c9 := Bool.eq_false_iff.mpr c9
                  subst c9
                  have H1 : (some false) = some r := by rw [if_neg (show ¬ (false = true) by decide)] at H; exact H
                  clear H
                  have H := H1
                  clear H1
                  obtain rfl := Option.some.inj H
                  have p220 : 0 ≤ (x8_1 : Int) := of_decide_eq_true (by first | (with_reducible assumption) | assumption)
                  have q220 : x8_1 < (l0.length : Int) := of_decide_eq_true (by first | (with_reducible assumption) | assumption)
                  obtain ⟨ad220, A220_2, c220_2, e220, hx220_0, hx220_1, hx220_2, hx220_3, hl220_2, hi220_2⟩ := at_T43 HR0.out x8_1 p220 q220
                  cases e220
                  replace hx220_0 := (HB.out.cell (World.block_lt_of_cell? w _ hx220_0)).trans hx220_0
                  replace hx220_1 := (HB.out.cell (World.block_lt_of_cell? w _ hx220_1)).trans hx220_1
                  replace hx220_2 := (HB.out.cell (World.block_lt_of_cell? w _ hx220_2)).trans hx220_2
                  replace hx220_3 := (HB.out.cell (World.block_lt_of_cell? w _ hx220_3)).trans hx220_3
                  have HR220_2 := Aside0.mk hi220_2
                  have HC220_2 := Aside0.mk hl220_2
                  clear hi220_2 hl220_2
                  replace p220 := eq_true p220
                  replace q220 := eq_true q220
                  go_wp2_with (first | ((with_reducible refine gate_dst (N := 5) rfl ?_); (try (refine gate_guard (by rfl) ?_; dsimp only)); refine box_event ?hg (N := 5) ?hd (cs := #[.int .i64 0, .int .i64 0, .slice none 0 0, .bool false]) (t := 43) ?hr ?_; (case hd => rfl); (case hg => rfl); (case hr => first | (go_simp; done) | (go_simp; rfl)); intro gb221 hg w16 hbox hb; have n0_ := Aside0.mk (below_step (by repeat (first | (with_reducible first | exact HB.out | apply below_alloc | apply pw_below_drewN | apply below_drew1) | exact HB.out)) hb); have n1_ := Aside0.mk (hbox); have n2_ := Aside0.mk ((by rw [hg]; exact (below_size (by repeat (first | (with_reducible first | exact HB.out | apply below_alloc | apply pw_below_drewN | apply below_drew1) | exact HB.out))) : w.heap.size ≤ gb221)); have n3_ := Aside0.mk ((by rw [hg]; exact (below_size (by repeat (first | (with_reducible first | exact HB.out | apply below_alloc | apply pw_below_drewN | apply below_drew1) | exact HB.out))) : w.heap.size ≤ gb221)); clear HB; have HB := n0_; have BK221 := n1_; have GW221 := n2_; have GE221 := n3_; clear n0_ n1_ n2_ n3_; clear hb hbox hg; have hcz17_0 : w16.cell? ⟨gb221, 0, none⟩ = some (.int .i64 0) := (blk_cell BK221.out 0).trans rfl; have hcz17_1 : w16.cell? ⟨gb221, 1, none⟩ = some (.int .i64 0) := (blk_cell BK221.out 1).trans rfl; have hcz17_2 : w16.cell? ⟨gb221, 2, none⟩ = some (.slice none 0 0) := (blk_cell BK221.out 2).trans rfl; have hcz17_3 : w16.cell? ⟨gb221, 3, none⟩ = some (.bool false) := (blk_cell BK221.out 3).trans rfl; have hfz17_0 := blk_frozen BK221.out 0; have hfz17_1 := blk_frozen BK221.out 1; have hfz17_2 := blk_frozen BK221.out 2; have hfz17_3 := blk_frozen BK221.out 3) | (go_at_call 47; (with_reducible refine (impl_between.calls ((rd_T43 l0 x8_1).f1) ((rd_T43 l0 x8_1).f0) 60 true _ A6.out).mono ?_); rintro e w' ⟨rfl, ⟨nd, rfl⟩⟩; (try first | exact ⟨rfl, _, World.drewN_drewN _ _ _⟩ | exact ⟨rfl, _, Eq.trans (World.drewN_drewN _ _ _) (congrArg (World.drewN _) (Nat.add_assoc _ _ _))⟩)) | (go_at_call 15; (with_reducible refine (impl_ActingOk.calls k1 _ _ ((rd_T43 l0 x8_1).f2) false _ ?side1 ?side2 A8.out).mono ?_); (case side1 => exact Kd.C_below HR220_2.out (by repeat (first | (with_reducible first | exact HB.out | apply below_alloc | apply pw_below_drewN | apply below_drew1 | refine below_set ?_ GE221.out) | exact HB.out))); (case side2 => exact HC220_2.out); rintro e w' ⟨rfl, ⟨nd, rfl⟩⟩; (try first | exact ⟨rfl, _, World.drewN_drewN _ _ _⟩ | exact ⟨rfl, _, Eq.trans (World.drewN_drewN _ _ _) (congrArg (World.drewN _) (Nat.add_assoc _ _ _))⟩)))
                  repeat (go_quiet (first | ((with_reducible refine gate_dst (N := 5) rfl ?_); (try (refine gate_guard (by rfl) ?_; dsimp only)); refine box_event ?hg (N := 5) ?hd (cs := #[.int .i64 0, .int .i64 0, .slice none 0 0, .bool false]) (t := 43) ?hr ?_; (case hd => rfl); (case hg => rfl); (case hr => first | (go_simp; done) | (go_simp; rfl)); intro gb221 hg w16 hbox hb; have n0_ := Aside0.mk (below_step (by repeat (first | (with_reducible first | exact HB.out | apply below_alloc | apply pw_below_drewN | apply below_drew1) | exact HB.out)) hb); have n1_ := Aside0.mk (hbox); have n2_ := Aside0.mk ((by rw [hg]; exact (below_size (by repeat (first | (with_reducible first | exact HB.out | apply below_alloc | apply pw_below_drewN | apply below_drew1) | exact HB.out))) : w.heap.size ≤ gb221)); have n3_ := Aside0.mk ((by rw [hg]; exact (below_size (by repeat (first | (with_reducible first | exact HB.out | apply below_alloc | apply pw_below_drewN | apply below_drew1) | exact HB.out))) : w.heap.size ≤ gb221)); clear HB; have HB := n0_; have BK221 := n1_; have GW221 := n2_; have GE221 := n3_; clear n0_ n1_ n2_ n3_; clear hb hbox hg; have hcz17_0 : w16.cell? ⟨gb221, 0, none⟩ = some (.int .i64 0) := (blk_cell BK221.out 0).trans rfl; have hcz17_1 : w16.cell? ⟨gb221, 1, none⟩ = some (.int .i64 0) := (blk_cell BK221.out 1).trans rfl; have hcz17_2 : w16.cell? ⟨gb221, 2, none⟩ = some (.slice none 0 0) := (blk_cell BK221.out 2).trans rfl; have hcz17_3 : w16.cell? ⟨gb221, 3, none⟩ = some (.bool false) := (blk_cell BK221.out 3).trans rfl; have hfz17_0 := blk_frozen BK221.out 0; have hfz17_1 := blk_frozen BK221.out 1; have hfz17_2 := blk_frozen BK221.out 2; have hfz17_3 := blk_frozen BK221.out 3) | (go_at_call 47; (with_reducible refine (impl_between.calls ((rd_T43 l0 x8_1).f1) ((rd_T43 l0 x8_1).f0) 60 true _ A6.out).mono ?_); rintro e w' ⟨rfl, ⟨nd, rfl⟩⟩; (try first | exact ⟨rfl, _, World.drewN_drewN _ _ _⟩ | exact ⟨rfl, _, Eq.trans (World.drewN_drewN _ _ _) (congrArg (World.drewN _) (Nat.add_assoc _ _ _))⟩)) | (go_at_call 15; (with_reducible refine (impl_ActingOk.calls k1 _ _ ((rd_T43 l0 x8_1).f2) false _ ?side1 ?side2 A8.out).mono ?_); (case side1 => exact Kd.C_below HR220_2.out (by repeat (first | (with_reducible first | exact HB.out | apply below_alloc | apply pw_below_drewN | apply below_drew1 | refine below_set ?_ GE221.out) | exact HB.out))); (case side2 => exact HC220_2.out); rintro e w' ⟨rfl, ⟨nd, rfl⟩⟩; (try first | exact ⟨rfl, _, World.drewN_drewN _ _ _⟩ | exact ⟨rfl, _, Eq.trans (World.drewN_drewN _ _ _) (congrArg (World.drewN _) (Nat.add_assoc _ _ _))⟩))); try go_wp2_with (first | ((with_reducible refine gate_dst (N := 5) rfl ?_); (try (refine gate_guard (by rfl) ?_; dsimp only)); refine box_event ?hg (N := 5) ?hd (cs := #[.int .i64 0, .int .i64 0, .slice none 0 0, .bool false]) (t := 43) ?hr ?_; (case hd => rfl); (case hg => rfl); (case hr => first | (go_simp; done) | (go_simp; rfl)); intro gb221 hg w16 hbox hb; have n0_ := Aside0.mk (below_step (by repeat (first | (with_reducible first | exact HB.out | apply below_alloc | apply pw_below_drewN | apply below_drew1) | exact HB.out)) hb); have n1_ := Aside0.mk (hbox); have n2_ := Aside0.mk ((by rw [hg]; exact (below_size (by repeat (first | (with_reducible first | exact HB.out | apply below_alloc | apply pw_below_drewN | apply below_drew1) | exact HB.out))) : w.heap.size ≤ gb221)); have n3_ := Aside0.mk ((by rw [hg]; exact (below_size (by repeat (first | (with_reducible first | exact HB.out | apply below_alloc | apply pw_below_drewN | apply below_drew1) | exact HB.out))) : w.heap.size ≤ gb221)); clear HB; have HB := n0_; have BK221 := n1_; have GW221 := n2_; have GE221 := n3_; clear n0_ n1_ n2_ n3_; clear hb hbox hg; have hcz17_0 : w16.cell? ⟨gb221, 0, none⟩ = some (.int .i64 0) := (blk_cell BK221.out 0).trans rfl; have hcz17_1 : w16.cell? ⟨gb221, 1, none⟩ = some (.int .i64 0) := (blk_cell BK221.out 1).trans rfl; have hcz17_2 : w16.cell? ⟨gb221, 2, none⟩ = some (.slice none 0 0) := (blk_cell BK221.out 2).trans rfl; have hcz17_3 : w16.cell? ⟨gb221, 3, none⟩ = some (.bool false) := (blk_cell BK221.out 3).trans rfl; have hfz17_0 := blk_frozen BK221.out 0; have hfz17_1 := blk_frozen BK221.out 1; have hfz17_2 := blk_frozen BK221.out 2; have hfz17_3 := blk_frozen BK221.out 3) | (go_at_call 47; (with_reducible refine (impl_between.calls ((rd_T43 l0 x8_1).f1) ((rd_T43 l0 x8_1).f0) 60 true _ A6.out).mono ?_); rintro e w' ⟨rfl, ⟨nd, rfl⟩⟩; (try first | exact ⟨rfl, _, World.drewN_drewN _ _ _⟩ | exact ⟨rfl, _, Eq.trans (World.drewN_drewN _ _ _) (congrArg (World.drewN _) (Nat.add_assoc _ _ _))⟩)) | (go_at_call 15; (with_reducible refine (impl_ActingOk.calls k1 _ _ ((rd_T43 l0 x8_1).f2) false _ ?side1 ?side2 A8.out).mono ?_); (case side1 => exact Kd.C_below HR220_2.out (by repeat (first | (with_reducible first | exact HB.out | apply below_alloc | apply pw_below_drewN | apply below_drew1 | refine below_set ?_ GE221.out) | exact HB.out))); (case side2 => exact HC220_2.out); rintro e w' ⟨rfl, ⟨nd, rfl⟩⟩; (try first | exact ⟨rfl, _, World.drewN_drewN _ _ _⟩ | exact ⟨rfl, _, Eq.trans (World.drewN_drewN _ _ _) (congrArg (World.drewN _) (Nat.add_assoc _ _ _))⟩))))
                  go_ret
                  exact ⟨by first | rfl | (simp [errW_none, errW_some] <;> rfl) | (simp [*, errW_none, errW_some] <;> rfl), by repeat (first | (with_reducible first | exact HB.out | apply below_alloc | apply pw_below_drewN | apply below_drew1 | refine below_set ?_ GE221.out) | exact HB.out)⟩
              · replace c7 := Bool.eq_false_iff.mpr c7
                subst c7
                have H1 : (some false) = some r := by rw [if_neg (show ¬ (false = true) by decide)] at H; exact H
                clear H
                have H := H1
                clear H1
                obtain rfl := Option.some.inj H
                have p220 : 0 ≤ (x8_1 : Int) := of_decide_eq_true (by first | (with_reducible assumption) | assumption)
                have q220 : x8_1 < (l0.length : Int) := of_decide_eq_true (by first | (with_reducible assumption) | assumption)
                obtain ⟨ad220, A220_2, c220_2, e220, hx220_0, hx220_1, hx220_2, hx220_3, hl220_2, hi220_2⟩ := at_T43 HR0.out x8_1 p220 q220
                cases e220
                replace hx220_0 := (HB.out.cell (World.block_lt_of_cell? w _ hx220_0)).trans hx220_0
                replace hx220_1 := (HB.out.cell (World.block_lt_of_cell? w _ hx220_1)).trans hx220_1
                replace hx220_2 := (HB.out.cell (World.block_lt_of_cell? w _ hx220_2)).trans hx220_2
                replace hx220_3 := (HB.out.cell (World.block_lt_of_cell? w _ hx220_3)).trans hx220_3
                have HR220_2 := Aside0.mk hi220_2
                have HC220_2 := Aside0.mk hl220_2
                clear hi220_2 hl220_2
                replace p220 := eq_true p220
                replace q220 := eq_true q220
                go_wp2_with (first | ((with_reducible refine gate_dst (N := 5) rfl ?_); (try (refine gate_guard (by rfl) ?_; dsimp only)); refine box_event ?hg (N := 5) ?hd (cs := #[.int .i64 0, .int .i64 0, .slice none 0 0, .bool false]) (t := 43) ?hr ?_; (case hd => rfl); (case hg => rfl); (case hr => first | (go_simp; done) | (go_simp; rfl)); intro gb221 hg w18 hbox hb; have n0_ := Aside0.mk (below_step (by repeat (first | (with_reducible first | exact HB.out | apply below_alloc | apply pw_below_drewN | apply below_drew1) | exact HB.out)) hb); have n1_ := Aside0.mk (hbox); have n2_ := Aside0.mk ((by rw [hg]; exact (below_size (by repeat (first | (with_reducible first | exact HB.out | apply below_alloc | apply pw_below_drewN | apply below_drew1) | exact HB.out))) : w.heap.size ≤ gb221)); have n3_ := Aside0.mk ((by rw [hg]; exact (below_size (by repeat (first | (with_reducible first | exact HB.out | apply below_alloc | apply pw_below_drewN | apply below_drew1) | exact HB.out))) : w.heap.size ≤ gb221)); clear HB; have HB := n0_; have BK221 := n1_; have GW221 := n2_; have GE221 := n3_; clear n0_ n1_ n2_ n3_; clear hb hbox hg; have hcz19_0 : w18.cell? ⟨gb221, 0, none⟩ = some (.int .i64 0) := (blk_cell BK221.out 0).trans rfl; have hcz19_1 : w18.cell? ⟨gb221, 1, none⟩ = some (.int .i64 0) := (blk_cell BK221.out 1).trans rfl; have hcz19_2 : w18.cell? ⟨gb221, 2, none⟩ = some (.slice none 0 0) := (blk_cell BK221.out 2).trans rfl; have hcz19_3 : w18.cell? ⟨gb221, 3, none⟩ = some (.bool false) := (blk_cell BK221.out 3).trans rfl; have hfz19_0 := blk_frozen BK221.out 0; have hfz19_1 := blk_frozen BK221.out 1; have hfz19_2 := blk_frozen BK221.out 2; have hfz19_3 := blk_frozen BK221.out 3) | (go_at_call 47; (with_reducible refine (impl_between.calls ((rd_T43 l0 x8_1).f1) ((rd_T43 l0 x8_1).f0) 60 false _ A6.out).mono ?_); rintro e w' ⟨rfl, ⟨nd, rfl⟩⟩; (try first | exact ⟨rfl, _, World.drewN_drewN _ _ _⟩ | exact ⟨rfl, _, Eq.trans (World.drewN_drewN _ _ _) (congrArg (World.drewN _) (Nat.add_assoc _ _ _))⟩)))
                repeat (go_quiet (first | ((with_reducible refine gate_dst (N := 5) rfl ?_); (try (refine gate_guard (by rfl) ?_; dsimp only)); refine box_event ?hg (N := 5) ?hd (cs := #[.int .i64 0, .int .i64 0, .slice none 0 0, .bool false]) (t := 43) ?hr ?_; (case hd => rfl); (case hg => rfl); (case hr => first | (go_simp; done) | (go_simp; rfl)); intro gb221 hg w18 hbox hb; have n0_ := Aside0.mk (below_step (by repeat (first | (with_reducible first | exact HB.out | apply below_alloc | apply pw_below_drewN | apply below_drew1) | exact HB.out)) hb); have n1_ := Aside0.mk (hbox); have n2_ := Aside0.mk ((by rw [hg]; exact (below_size (by repeat (first | (with_reducible first | exact HB.out | apply below_alloc | apply pw_below_drewN | apply below_drew1) | exact HB.out))) : w.heap.size ≤ gb221)); have n3_ := Aside0.mk ((by rw [hg]; exact (below_size (by repeat (first | (with_reducible first | exact HB.out | apply below_alloc | apply pw_below_drewN | apply below_drew1) | exact HB.out))) : w.heap.size ≤ gb221)); clear HB; have HB := n0_; have BK221 := n1_; have GW221 := n2_; have GE221 := n3_; clear n0_ n1_ n2_ n3_; clear hb hbox hg; have hcz19_0 : w18.cell? ⟨gb221, 0, none⟩ = some (.int .i64 0) := (blk_cell BK221.out 0).trans rfl; have hcz19_1 : w18.cell? ⟨gb221, 1, none⟩ = some (.int .i64 0) := (blk_cell BK221.out 1).trans rfl; have hcz19_2 : w18.cell? ⟨gb221, 2, none⟩ = some (.slice none 0 0) := (blk_cell BK221.out 2).trans rfl; have hcz19_3 : w18.cell? ⟨gb221, 3, none⟩ = some (.bool false) := (blk_cell BK221.out 3).trans rfl; have hfz19_0 := blk_frozen BK221.out 0; have hfz19_1 := blk_frozen BK221.out 1; have hfz19_2 := blk_frozen BK221.out 2; have hfz19_3 := blk_frozen BK221.out 3) | (go_at_call 47; (with_reducible refine (impl_between.calls ((rd_T43 l0 x8_1).f1) ((rd_T43 l0 x8_1).f0) 60 false _ A6.out).mono ?_); rintro e w' ⟨rfl, ⟨nd, rfl⟩⟩; (try first | exact ⟨rfl, _, World.drewN_drewN _ _ _⟩ | exact ⟨rfl, _, Eq.trans (World.drewN_drewN _ _ _) (congrArg (World.drewN _) (Nat.add_assoc _ _ _))⟩))); try go_wp2_with (first | ((with_reducible refine gate_dst (N := 5) rfl ?_); (try (refine gate_guard (by rfl) ?_; dsimp only)); refine box_event ?hg (N := 5) ?hd (cs := #[.int .i64 0, .int .i64 0, .slice none 0 0, .bool false]) (t := 43) ?hr ?_; (case hd => rfl); (case hg => rfl); (case hr => first | (go_simp; done) | (go_simp; rfl)); intro gb221 hg w18 hbox hb; have n0_ := Aside0.mk (below_step (by repeat (first | (with_reducible first | exact HB.out | apply below_alloc | apply pw_below_drewN | apply below_drew1) | exact HB.out)) hb); have n1_ := Aside0.mk (hbox); have n2_ := Aside0.mk ((by rw [hg]; exact (below_size (by repeat (first | (with_reducible first | exact HB.out | apply below_alloc | apply pw_below_drewN | apply below_drew1) | exact HB.out))) : w.heap.size ≤ gb221)); have n3_ := Aside0.mk ((by rw [hg]; exact (below_size (by repeat (first | (with_reducible first | exact HB.out | apply below_alloc | apply pw_below_drewN | apply below_drew1) | exact HB.out))) : w.heap.size ≤ gb221)); clear HB; have HB := n0_; have BK221 := n1_; have GW221 := n2_; have GE221 := n3_; clear n0_ n1_ n2_ n3_; clear hb hbox hg; have hcz19_0 : w18.cell? ⟨gb221, 0, none⟩ = some (.int .i64 0) := (blk_cell BK221.out 0).trans rfl; have hcz19_1 : w18.cell? ⟨gb221, 1, none⟩ = some (.int .i64 0) := (blk_cell BK221.out 1).trans rfl; have hcz19_2 : w18.cell? ⟨gb221, 2, none⟩ = some (.slice none 0 0) := (blk_cell BK221.out 2).trans rfl; have hcz19_3 : w18.cell? ⟨gb221, 3, none⟩ = some (.bool false) := (blk_cell BK221.out 3).trans rfl; have hfz19_0 := blk_frozen BK221.out 0; have hfz19_1 := blk_frozen BK221.out 1; have hfz19_2 := blk_frozen BK221.out 2; have hfz19_3 := blk_frozen BK221.out 3) | (go_at_call 47; (with_reducible refine (impl_between.calls ((rd_T43 l0 x8_1).f1) ((rd_T43 l0 x8_1).f0) 60 false _ A6.out).mono ?_); rintro e w' ⟨rfl, ⟨nd, rfl⟩⟩; (try first | exact ⟨rfl, _, World.drewN_drewN _ _ _⟩ | exact ⟨rfl, _, Eq.trans (World.drewN_drewN _ _ _) (congrArg (World.drewN _) (Nat.add_assoc _ _ _))⟩))))
                go_ret
                exact ⟨by first | rfl | (simp [errW_none, errW_some] <;> rfl) | (simp [*, errW_none, errW_some] <;> rfl), by repeat (first | (with_reducible first | exact HB.out | apply below_alloc | apply pw_below_drewN | apply below_drew1 | refine below_set ?_ GE221.out) | exact HB.out)⟩
            · rw [if_neg c5] at H
              have c5b0 : (((rd_T43 l0 x8_1).f0) == x3_1) = false := beq_eq_false_iff_ne.mpr c5
              have c5b1 : (((rd_T43 l0 x8_1).f0) != x3_1) = true := bne_iff_ne.mpr c5
              obtain rfl := Option.some.inj H
              have p220 : 0 ≤ (x8_1 : Int) := of_decide_eq_true (by first | (with_reducible assumption) | assumption)
              have q220 : x8_1 < (l0.length : Int) := of_decide_eq_true (by first | (with_reducible assumption) | assumption)
              obtain ⟨ad220, A220_2, c220_2, e220, hx220_0, hx220_1, hx220_2, hx220_3, hl220_2, hi220_2⟩ := at_T43 HR0.out x8_1 p220 q220
              cases e220
              replace hx220_0 := (HB.out.cell (World.block_lt_of_cell? w _ hx220_0)).trans hx220_0
              replace hx220_1 := (HB.out.cell (World.block_lt_of_cell? w _ hx220_1)).trans hx220_1
              replace hx220_2 := (HB.out.cell (World.block_lt_of_cell? w _ hx220_2)).trans hx220_2
              replace hx220_3 := (HB.out.cell (World.block_lt_of_cell? w _ hx220_3)).trans hx220_3
              have HR220_2 := Aside0.mk hi220_2
              have HC220_2 := Aside0.mk hl220_2
              clear hi220_2 hl220_2
              replace p220 := eq_true p220
              replace q220 := eq_true q220
              go_wp2_with (first | ((with_reducible refine gate_dst (N := 5) rfl ?_); (try (refine gate_guard (by rfl) ?_; dsimp only)); refine box_event ?hg (N := 5) ?hd (cs := #[.int .i64 0, .int .i64 0, .slice none 0 0, .bool false]) (t := 43) ?hr ?_; (case hd => rfl); (case hg => rfl); (case hr => first | (go_simp; done) | (go_simp; rfl)); intro gb221 hg w20 hbox hb; have n0_ := Aside0.mk (below_step (by repeat (first | (with_reducible first | exact HB.out | apply below_alloc | apply pw_below_drewN | apply below_drew1) | exact HB.out)) hb); have n1_ := Aside0.mk (hbox); have n2_ := Aside0.mk ((by rw [hg]; exact (below_size (by repeat (first | (with_reducible first | exact HB.out | apply below_alloc | apply pw_below_drewN | apply below_drew1) | exact HB.out))) : w.heap.size ≤ gb221)); have n3_ := Aside0.mk ((by rw [hg]; exact (below_size (by repeat (first | (with_reducible first | exact HB.out | apply below_alloc | apply pw_below_drewN | apply below_drew1) | exact HB.out))) : w.heap.size ≤ gb221)); clear HB; have HB := n0_; have BK221 := n1_; have GW221 := n2_; have GE221 := n3_; clear n0_ n1_ n2_ n3_; clear hb hbox hg; have hcz21_0 : w20.cell? ⟨gb221, 0, none⟩ = some (.int .i64 0) := (blk_cell BK221.out 0).trans rfl; have hcz21_1 : w20.cell? ⟨gb221, 1, none⟩ = some (.int .i64 0) := (blk_cell BK221.out 1).trans rfl; have hcz21_2 : w20.cell? ⟨gb221, 2, none⟩ = some (.slice none 0 0) := (blk_cell BK221.out 2).trans rfl; have hcz21_3 : w20.cell? ⟨gb221, 3, none⟩ = some (.bool false) := (blk_cell BK221.out 3).trans rfl; have hfz21_0 := blk_frozen BK221.out 0; have hfz21_1 := blk_frozen BK221.out 1; have hfz21_2 := blk_frozen BK221.out 2; have hfz21_3 := blk_frozen BK221.out 3))
              repeat (go_quiet (first | ((with_reducible refine gate_dst (N := 5) rfl ?_); (try (refine gate_guard (by rfl) ?_; dsimp only)); refine box_event ?hg (N := 5) ?hd (cs := #[.int .i64 0, .int .i64 0, .slice none 0 0, .bool false]) (t := 43) ?hr ?_; (case hd => rfl); (case hg => rfl); (case hr => first | (go_simp; done) | (go_simp; rfl)); intro gb221 hg w20 hbox hb; have n0_ := Aside0.mk (below_step (by repeat (first | (with_reducible first | exact HB.out | apply below_alloc | apply pw_below_drewN | apply below_drew1) | exact HB.out)) hb); have n1_ := Aside0.mk (hbox); have n2_ := Aside0.mk ((by rw [hg]; exact (below_size (by repeat (first | (with_reducible first | exact HB.out | apply below_alloc | apply pw_below_drewN | apply below_drew1) | exact HB.out))) : w.heap.size ≤ gb221)); have n3_ := Aside0.mk ((by rw [hg]; exact (below_size (by repeat (first | (with_reducible first | exact HB.out | apply below_alloc | apply pw_below_drewN | apply below_drew1) | exact HB.out))) : w.heap.size ≤ gb221)); clear HB; have HB := n0_; have BK221 := n1_; have GW221 := n2_; have GE221 := n3_; clear n0_ n1_ n2_ n3_; clear hb hbox hg; have hcz21_0 : w20.cell? ⟨gb221, 0, none⟩ = some (.int .i64 0) := (blk_cell BK221.out 0).trans rfl; have hcz21_1 : w20.cell? ⟨gb221, 1, none⟩ = some (.int .i64 0) := (blk_cell BK221.out 1).trans rfl; have hcz21_2 : w20.cell? ⟨gb221, 2, none⟩ = some (.slice none 0 0) := (blk_cell BK221.out 2).trans rfl; have hcz21_3 : w20.cell? ⟨gb221, 3, none⟩ = some (.bool false) := (blk_cell BK221.out 3).trans rfl; have hfz21_0 := blk_frozen BK221.out 0; have hfz21_1 := blk_frozen BK221.out 1; have hfz21_2 := blk_frozen BK221.out 2; have hfz21_3 := blk_frozen BK221.out 3)); try go_wp2_with (first | ((with_reducible refine gate_dst (N := 5) rfl ?_); (try (refine gate_guard (by rfl) ?_; dsimp only)); refine box_event ?hg (N := 5) ?hd (cs := #[.int .i64 0, .int .i64 0, .slice none 0 0, .bool false]) (t := 43) ?hr ?_; (case hd => rfl); (case hg => rfl); (case hr => first | (go_simp; done) | (go_simp; rfl)); intro gb221 hg w20 hbox hb; have n0_ := Aside0.mk (below_step (by repeat (first | (with_reducible first | exact HB.out | apply below_alloc | apply pw_below_drewN | apply below_drew1) | exact HB.out)) hb); have n1_ := Aside0.mk (hbox); have n2_ := Aside0.mk ((by rw [hg]; exact (below_size (by repeat (first | (with_reducible first | exact HB.out | apply below_alloc | apply pw_below_drewN | apply below_drew1) | exact HB.out))) : w.heap.size ≤ gb221)); have n3_ := Aside0.mk ((by rw [hg]; exact (below_size (by repeat (first | (with_reducible first | exact HB.out | apply below_alloc | apply pw_below_drewN | apply below_drew1) | exact HB.out))) : w.heap.size ≤ gb221)); clear HB; have HB := n0_; have BK221 := n1_; have GW221 := n2_; have GE221 := n3_; clear n0_ n1_ n2_ n3_; clear hb hbox hg; have hcz21_0 : w20.cell? ⟨gb221, 0, none⟩ = some (.int .i64 0) := (blk_cell BK221.out 0).trans rfl; have hcz21_1 : w20.cell? ⟨gb221, 1, none⟩ = some (.int .i64 0) := (blk_cell BK221.out 1).trans rfl; have hcz21_2 : w20.cell? ⟨gb221, 2, none⟩ = some (.slice none 0 0) := (blk_cell BK221.out 2).trans rfl; have hcz21_3 : w20.cell? ⟨gb221, 3, none⟩ = some (.bool false) := (blk_cell BK221.out 3).trans rfl; have hfz21_0 := blk_frozen BK221.out 0; have hfz21_1 := blk_frozen BK221.out 1; have hfz21_2 := blk_frozen BK221.out 2; have hfz21_3 := blk_frozen BK221.out 3)))
              go_ret
              exact ⟨by first | rfl | (simp [errW_none, errW_some] <;> rfl) | (simp [*, errW_none, errW_some] <;> rfl), by repeat (first | (with_reducible first | exact HB.out | apply below_alloc | apply pw_below_drewN | apply below_drew1 | refine below_set ?_ GE221.out) | exact HB.out)⟩
          · rw [if_neg c4] at H
            exact absurd H (by simp)
        · rw [if_neg c3] at H
          exact absurd H (by simp)
      · rw [if_neg c2] at H
        have c2b0 : decide (x8_1 < (l0.length : Int)) = false := decide_eq_false c2
        clear c2
        obtain rfl := Option.some.inj H
        go_wp2
        repeat (go_quiet (fail); try go_wp2)
        go_ret
        exact ⟨by first | rfl | (simp [errW_none, errW_some] <;> rfl) | (simp [*, errW_none, errW_some] <;> rfl), by repeat (first | (with_reducible first | exact HB.out | apply below_alloc | apply pw_below_drewN | apply below_drew1) | exact HB.out)⟩

/-! ### impl_increasing: function 106 -/
def impl_increasing.l0 : Nat → List Int → Int → Option (Bool)
  | 0, _, _ => none
  | k + 1, x0, x3 => if x3 < (x0.length : Int) then (if 0 ≤ x3 then (if 0 ≤ (wrap64 (x3 - 1)) then (if (wrap64 (x3 - 1)) < (x0.length : Int) then (if (rd x0 x3) ≤ (rd x0 (wrap64 (x3 - 1))) then (some false) else (impl_increasing.l0 k x0 (wrap64 (x3 + 1)))) else (none)) else (none)) else (none)) else (some true)
def impl_increasing.f (k : Nat) (l0 : List Int) : Option (Bool) := impl_increasing.l0 k l0 1
theorem impl_increasing.mono_l : ∀ k, (∀ y0 y1, LeO (impl_increasing.l0 k y0 y1) (impl_increasing.l0 (k + 1) y0 y1))
  | 0 => fun _ _ r h => by simp [impl_increasing.l0] at h
  | k + 1 => by
    have ih0 := impl_increasing.mono_l k
    · intro y0 y1
      unfold impl_increasing.l0
      repeat' first
      | (with_reducible exact ih0 _ _)
      | (with_reducible exact LeO.refl _)
      | (with_reducible exact LeO.none _)
      | (with_reducible refine LeO.ite ?_ ?_)
      | (with_reducible refine LeO.bind ?_ (fun _ => ?_))
      | exact ih0 _ _
      | exact LeO.none _
      | refine LeO.ite ?_ ?_
      | refine LeO.bind ?_ (fun _ => ?_)
theorem impl_increasing.mono : ∀ a0 k, LeO (impl_increasing.f k a0) (impl_increasing.f (k + 1) a0) := by
  intro a0 k
  have ih0 := impl_increasing.mono_l k
  unfold impl_increasing.f
  repeat' first
      | (with_reducible exact ih0 _ _)
      | (with_reducible exact LeO.refl _)
      | (with_reducible exact LeO.none _)
      | (with_reducible refine LeO.ite ?_ ?_)
      | (with_reducible refine LeO.bind ?_ (fun _ => ?_))
      | exact ih0 _ _
      | exact LeO.none _
      | refine LeO.ite ?_ ?_
      | refine LeO.bind ?_ (fun _ => ?_)
set_option maxHeartbeats 8000000 in
set_option maxRecDepth 100000 in
theorem impl_increasing.calls (k : Nat) (A0 : Option Addr) (c0 : Nat) (l0 : List Int) (r : Bool) (w : World) (hr0 : Kd.C (Kd.int .i64) w A0 l0.length l0) (hc0 : l0.length ≤ c0) (h : impl_increasing.f k l0 = some r) :
    Calls Try.prog 106 #[.slice A0 l0.length c0] w fun e w' => e = .returned (.bool r) ∧ Drawn0 w w' := by
  have HR0 := Aside0.mk hr0
  have HC0 := Aside0.mk hc0
  clear hr0 hc0
  have H : (impl_increasing.l0 k l0 1) = some r := h
  clear h
  have H' := Aside0.mk H
  clear H
  go_enter Try.func106, Try.ntmps106
  go_wp2
  repeat (go_quiet (fail); try go_wp2)
  go_loopg [3] k (fun kq v3 w' => ∃ (x3_1 : Int), v3 = .int .i64 x3_1 ∧ Aside0 (impl_increasing.l0 kq l0 x3_1 = some r) ∧ Aside0 (kq ≤ k) ∧ Drawn0 w w')
  case atStart => exact ⟨(1), (by first | rfl | (simp; done) | (simp [*]; done)), H', ⟨Nat.le_refl _⟩, by repeat (first | exact Drawn0.refl _ | apply Drawn0.step)⟩
  case round =>
    clear H'
    try clear c1
    obtain ⟨x3_1, rfl, HA, HK1, ⟨m1, rfl⟩⟩ := hrel
    cases gk with
    | zero => exact absurd HA.out (by simp [impl_increasing.l0])
    | succ k1 =>
      have H := HA.out
      clear HA
      simp only [impl_increasing.l0] at H
      by_cases c2 : x3_1 < (l0.length : Int)
      · rw [if_pos c2] at H
        have c2b0 : decide (x3_1 < (l0.length : Int)) = true := decide_eq_true c2
        clear c2
        by_cases c3 : 0 ≤ x3_1
        · rw [if_pos c3] at H
          have c3b0 : decide (0 ≤ x3_1) = true := decide_eq_true c3
          clear c3
          obtain ⟨ji4, hji4⟩ : ∃ j_ : Int, (wrap64 (x3_1 - 1)) = j_ := ⟨_, rfl⟩
          replace H : (if 0 ≤ (ji4) then (if (ji4) < (l0.length : Int) then (if (rd l0 x3_1) ≤ (rd l0 (ji4)) then (some false) else (impl_increasing.l0 k1 l0 (wrap64 (x3_1 + 1)))) else (none)) else (none)) = some r := by first | (rw [hji4] at H; exact H) | (simp only [hji4] at H ⊢; exact H)
          have hji4w : (IntKind.i64.wrap (x3_1 - 1)) = ji4 := (i64_w _).trans hji4
          by_cases c5 : 0 ≤ (ji4)
          · rw [if_pos c5] at H
            have c5b0 : decide (0 ≤ (ji4)) = true := decide_eq_true c5
            clear c5
            by_cases c6 : (ji4) < (l0.length : Int)
            · rw [if_pos c6] at H
              have c6b0 : decide ((ji4) < (l0.length : Int)) = true := decide_eq_true c6
              clear c6
              by_cases c7 : (rd l0 x3_1) ≤ (rd l0 (ji4))
              · rw [if_pos c7] at H
                have c7b0 : decide ((rd l0 x3_1) ≤ (rd l0 (ji4))) = true := decide_eq_true c7
                clear c7
                obtain rfl := Option.some.inj H
                have p225 : 0 ≤ (x3_1 : Int) := of_decide_eq_true (by first | (with_reducible assumption) | assumption)
                have q225 : x3_1 < (l0.length : Int) := of_decide_eq_true (by first | (with_reducible assumption) | assumption)
                obtain ⟨ad225, e225, hx225_0⟩ := Kd.at_int HR0.out x3_1 p225 q225
                cases e225
                replace p225 := eq_true p225
                replace q225 := eq_true q225
                have p226 : 0 ≤ ((ji4) : Int) := of_decide_eq_true (by first | (with_reducible assumption) | assumption)
                have q226 : (ji4) < (l0.length : Int) := of_decide_eq_true (by first | (with_reducible assumption) | assumption)
                obtain ⟨ad226, e226, hx226_0⟩ := Kd.at_int HR0.out (ji4) p226 q226
                obtain rfl : ad225 = ad226 := (by injection e226)
                replace p226 := eq_true p226
                replace q226 := eq_true q226
                go_wp2
                repeat (go_quiet (fail); try go_wp2)
                go_ret
                exact ⟨by first | rfl | (simp; done) | (simp only [← hji4] <;> (first | rfl | simp)) | (simp [*]; done), by repeat (first | exact Drawn0.refl _ | apply Drawn0.step)⟩
              · rw [if_neg c7] at H
                have c7b0 : decide ((rd l0 x3_1) ≤ (rd l0 (ji4))) = false := decide_eq_false c7
                clear c7
                have H' := Aside0.mk H
                clear H
                have p225 : 0 ≤ (x3_1 : Int) := of_decide_eq_true (by first | (with_reducible assumption) | assumption)
                have q225 : x3_1 < (l0.length : Int) := of_decide_eq_true (by first | (with_reducible assumption) | assumption)
                obtain ⟨ad225, e225, hx225_0⟩ := Kd.at_int HR0.out x3_1 p225 q225
                cases e225
                replace p225 := eq_true p225
                replace q225 := eq_true q225
                have p226 : 0 ≤ ((ji4) : Int) := of_decide_eq_true (by first | (with_reducible assumption) | assumption)
                have q226 : (ji4) < (l0.length : Int) := of_decide_eq_true (by first | (with_reducible assumption) | assumption)
                obtain ⟨ad226, e226, hx226_0⟩ := Kd.at_int HR0.out (ji4) p226 q226
                obtain rfl : ad225 = ad226 := (by injection e226)
                replace p226 := eq_true p226
                replace q226 := eq_true q226
                go_wp2
                repeat (go_quiet (fail); try go_wp2)
                go_roundg k1
                case measure => have := HK1.out; omega
                case rel => exact ⟨(wrap64 (x3_1 + 1)), (by first | rfl | (simp; done) | (simp [*]; done)), H', ⟨by have := HK1.out; omega⟩, by repeat (first | exact Drawn0.refl _ | apply Drawn0.step)⟩
            · rw [if_neg c6] at H
              exact absurd H (by simp)
          · rw [if_neg c5] at H
            exact absurd H (by simp)
        · rw [if_neg c3] at H
          exact absurd H (by simp)
      · rw [if_neg c2] at H
        have c2b0 : decide (x3_1 < (l0.length : Int)) = false := decide_eq_false c2
        clear c2
        obtain rfl := Option.some.inj H
        go_wp2
        repeat (go_quiet (fail); try go_wp2)
        go_ret
        exact ⟨by first | rfl | (simp; done) | (simp [*]; done), by repeat (first | exact Drawn0.refl _ | apply Drawn0.step)⟩

/-! ### impl_allBetween: function 107 -/
set_option maxHeartbeats 2000000 in
/-- slices.IndexFunc over whole numbers, with the function 118 (captured: two bounds). -/
theorem impl_allBetween.index (b1 b2 : Addr) (p : Int → Bool) (A0 : Option Addr) (c0 : Nat) (l0 : List Int) (w : World) (hr0 : Kd.C (Kd.int .i64) w A0 l0.length l0)
    (hp : ∀ (W : World) (x : Int), Below w.heap.size w W → Calls Try.prog 118 #[.int .i64 x, .pointer (some b1), .pointer (some b2)] W fun e w' => e = .returned (.bool (p x)) ∧ Below w.heap.size w w') :
    Calls Try.prog 75 #[.slice A0 l0.length c0, .func (.func 118) #[] #[.pointer (some b1), .pointer (some b2)]] w fun e w' => e = .returned (.int .i64 (idxP p l0 0)) ∧ Below w.heap.size w w' := by
  have HR0 := Aside0.mk hr0
  have HP := Aside0.mk hp
  have hm : l0.length ≤ 9223372036854775807 := hr0.2.1
  clear hr0 hp
  go_enter Try.func75, Try.ntmps75
  go_wp2
  go_loopg [5, 8] l0.length (fun gg _ s8 wr => ∃ kk : Nat, kk ≤ l0.length ∧ l0.length - kk ≤ gg ∧ s8 = .int .i64 kk ∧ Aside0 (Below w.heap.size w wr) ∧ Aside0 (idxP p l0 0 = idxP p (l0.drop kk) kk))
  case atStart => exact ⟨0, Nat.zero_le _, by omega, rfl, ⟨Below.refl _ w⟩, ⟨rfl⟩⟩
  case round =>
    obtain ⟨kk, hkk, hg, rfl, BW, AI⟩ := hrel
    by_cases hlt : kk < l0.length
    · have hltz : (kk : Int) < (l0.length : Int) := by omega
      obtain ⟨ad, e, hx⟩ := Kd.at_int HR0.out (kk : Int) (by omega) hltz
      cases e
      rw [Int.toNat_natCast] at hx
      replace hx := (BW.out.cell (World.block_lt_of_cell? w _ hx)).trans hx
      have hcall := HP.out wr (rd l0 (kk : Int)) BW.out
      have HD := Aside0.mk (idxP_drop p l0 kk hlt)
      have HE := Aside0.mk (rd_at0 hlt)
      generalize rd l0 (kk : Int) = y at hx hcall HE
      cases hq : p y with
      | true =>
        rw [hq] at hcall
        have HQ := Aside0.mk hq
        clear hq
        go_wp2_with (go_at_call 118; refine hcall.mono ?_; rintro e w' ⟨rfl, hb'⟩)
        go_ret
        refine ⟨?_, hb'⟩
        rw [AI.out, HD.out, ← HE.out, if_pos HQ.out]
        rfl
      | false =>
        rw [hq] at hcall
        have HQ := Aside0.mk hq
        clear hq
        go_wp2_with (go_at_call 118; refine hcall.mono ?_; rintro e w' ⟨rfl, hb'⟩)
        go_roundg (l0.length - (kk + 1))
        case measure => omega
        case rel => exact ⟨kk + 1, by omega, by omega, by go_num, ⟨hb'⟩, ⟨by rw [AI.out, HD.out, ← HE.out, HQ.out]; rfl⟩⟩
    · have hltz : ¬ (kk : Int) < (l0.length : Int) := by omega
      go_wp2
      go_ret
      refine ⟨?_, BW.out⟩
      rw [AI.out, List.drop_of_length_le (by omega)]
      rfl
set_option maxHeartbeats 2000000 in
/-- slices.ContainsFunc over whole numbers, with the function 118. -/
theorem impl_allBetween.contains (b1 b2 : Addr) (p : Int → Bool) (A0 : Option Addr) (c0 : Nat) (l0 : List Int) (w : World) (hr0 : Kd.C (Kd.int .i64) w A0 l0.length l0)
    (hp : ∀ (W : World) (x : Int), Below w.heap.size w W → Calls Try.prog 118 #[.int .i64 x, .pointer (some b1), .pointer (some b2)] W fun e w' => e = .returned (.bool (p x)) ∧ Below w.heap.size w w') :
    Calls Try.prog 117 #[.slice A0 l0.length c0, .func (.func 118) #[] #[.pointer (some b1), .pointer (some b2)]] w fun e w' => e = .returned (.bool (l0.any p)) ∧ Below w.heap.size w w' := by
  have HI := impl_allBetween.index b1 b2 p A0 c0 l0 w hr0 hp
  have HQ := Aside0.mk (idxP_dec p l0)
  clear hr0 hp
  generalize idxP p l0 0 = q at HI HQ
  generalize l0.any p = b at HQ
  go_enter Try.func117, Try.ntmps117
  go_wp2_with (go_at_call 75; refine HI.mono ?_; rintro e w' ⟨rfl, hb⟩)
  go_ret
  exact ⟨by rw [← HQ.out]; rfl, hb⟩
def impl_allBetween.f (l0 : List Int) (a1 : Int) (a2 : Int) : Option (Bool) := some (!l0.any fun n => !decide (a1 ≤ n ∧ n ≤ a2))
theorem impl_allBetween.btw (a b c : Int) : impl_between.f a b c = some (decide (b ≤ a ∧ a ≤ c)) := by
  unfold impl_between.f
  by_cases h : a ≥ b
  · have h' : b ≤ a := h
    simp [h, h']
  · have h' : ¬ b ≤ a := h
    simp [h, h']
set_option maxHeartbeats 2000000 in
theorem impl_allBetween.pred (x lo hi : Int) (b1 b2 : Addr) (W : World) (h1 : W.cell? b1 = some (.int .i64 lo)) (h2 : W.cell? b2 = some (.int .i64 hi)) :
    Calls Try.prog 118 #[.int .i64 x, .pointer (some b1), .pointer (some b2)] W fun e w' => e = .returned (.bool (!decide (lo ≤ x ∧ x ≤ hi))) ∧ Drawn0 W w' := by
  have HB := impl_between.calls x lo hi (decide (lo ≤ x ∧ x ≤ hi))
  have HT := Aside0.mk (impl_allBetween.btw x lo hi)
  generalize decide (lo ≤ x ∧ x ≤ hi) = b at HB HT
  go_enter Try.func118, Try.ntmps118
  go_wp2_with (go_at_call 47; refine (HB _ HT.out).mono ?_; rintro e w' ⟨rfl, hd⟩)
  go_ret
  exact ⟨rfl, hd⟩
set_option maxHeartbeats 2000000 in
theorem impl_allBetween.calls (A0 : Option Addr) (c0 : Nat) (l0 : List Int) (a1 : Int) (a2 : Int) (r : Bool) (w : World) (hr0 : Kd.C (Kd.int .i64) w A0 l0.length l0) (hc0 : l0.length ≤ c0) (h : impl_allBetween.f l0 a1 a2 = some r) :
    Calls Try.prog 107 #[.slice A0 l0.length c0, .int .i64 a1, .int .i64 a2] w fun e w' => e = .returned (.bool r) ∧ Below w.heap.size w w' := by
  obtain rfl := Option.some.inj h
  clear h
  have hB : Below w.heap.size w ((w.alloc (.cells #[.int .i64 a1] 2)).alloc (.cells #[.int .i64 a2] 2)) := ((Below.refl _ _).alloc (Nat.le_refl _) _).alloc (by simp) _
  have HI := impl_allBetween.contains ⟨w.heap.size, 0, none⟩ ⟨w.heap.size + 1, 0, none⟩ (fun n => !decide (a1 ≤ n ∧ n ≤ a2)) A0 c0 l0 ((w.alloc (.cells #[.int .i64 a1] 2)).alloc (.cells #[.int .i64 a2] 2)) (Kd.C_below hr0 hB) (fun W x hb => by
    refine (impl_allBetween.pred x a1 a2 _ _ W ?_ ?_).mono fun e w' ⟨he, hw⟩ => ⟨he, hb.trans (hw.below.mono hb.size)⟩
    · rw [hb.cell (by simp <;> omega)]; simp
    · rw [hb.cell (by simp <;> omega)]; simp)
  generalize (l0.any fun n => !decide (a1 ≤ n ∧ n ≤ a2)) = b at HI
  clear hr0 hc0
  have HBB := Aside0.mk hB
  clear hB
  go_enter Try.func107, Try.ntmps107
  go_wp2_with (go_at_call 117; refine HI.mono ?_; rintro e w' ⟨rfl, hb⟩)
  go_ret
  exact ⟨rfl, HBB.out.trans (hb.mono HBB.out.size)⟩

/-! ### impl_outOk: function 82 -/
def impl_outOk.f (k : Nat) (l0 : List Int) : Option (Bool) := (impl_increasing.f k l0).bind fun t227 => (if t227 = true then ((impl_allBetween.f l0 0 15).bind fun t228 => (some t228)) else (some false))
theorem impl_outOk.mono : ∀ a0 k, LeO (impl_outOk.f k a0) (impl_outOk.f (k + 1) a0) := by
  intro a0 k
  unfold impl_outOk.f
  repeat' first
      | (with_reducible exact impl_increasing.mono _ _)
      | (with_reducible exact LeO.refl _)
      | (with_reducible exact LeO.none _)
      | (with_reducible refine LeO.ite ?_ ?_)
      | (with_reducible refine LeO.bind ?_ (fun _ => ?_))
      | exact impl_increasing.mono _ _
      | exact LeO.none _
      | refine LeO.ite ?_ ?_
      | refine LeO.bind ?_ (fun _ => ?_)
set_option maxHeartbeats 8000000 in
set_option maxRecDepth 100000 in
theorem impl_outOk.calls (k : Nat) (A0 : Option Addr) (c0 : Nat) (l0 : List Int) (r : Bool) (w : World) (hr0 : Kd.C (Kd.int .i64) w A0 l0.length l0) (hc0 : l0.length ≤ c0) (h : impl_outOk.f k l0 = some r) :
    Calls Try.prog 82 #[.slice A0 l0.length c0] w fun e w' => e = .returned (.bool r) ∧ Below w.heap.size w w' := by
  have HR0 := Aside0.mk hr0
  have HC0 := Aside0.mk hc0
  clear hr0 hc0
  have HB := Aside0.mk (Below.refl w.heap.size w)
  have H : ((impl_increasing.f k l0).bind fun t227 => (if t227 = true then ((impl_allBetween.f l0 0 15).bind fun t228 => (some t228)) else (some false))) = some r := h
  clear h
  replace H := Option.bind_eq_some_iff.mp H
  obtain ⟨t227, A20, H⟩ := H
  replace H : (if t227 = true then ((impl_allBetween.f l0 0 15).bind fun t228 => (some t228)) else (some false)) = some r := H
  have A2 := Aside0.mk A20
  clear A20
  by_cases c3 : t227 = true
  · subst c3
    have H1 : ((impl_allBetween.f l0 0 15).bind fun t228 => (some t228)) = some r := by rw [if_pos rfl] at H; exact H
    clear H
    have H := H1
    clear H1
    replace H := Option.bind_eq_some_iff.mp H
    obtain ⟨t228, A40, H⟩ := H
    replace H : (some t228) = some r := H
    have A4 := Aside0.mk A40
    clear A40
    obtain rfl := Option.some.inj H
    go_enter Try.func82, Try.ntmps82
    go_wp2_with (first | ((with_reducible refine gate_callee (f := 106) rfl ?_); refine goesL_ (some 4) rfl rfl Try.func106 (by kernel_rfl) rfl #[.slice A0 l0.length c0] rfl (by (try simp only [List.map_toArray, List.map_cons, List.map_nil]); first | done | rfl | (simp only [List.length_drop, List.length_take]; rfl)) ?_; (with_reducible refine (impl_increasing.calls k _ _ l0 true _ ?side1 ?side2 A2.out).mono ?_); (case side1 => repeat (first | exact HR0.out | (with_reducible refine Kd.C_alloc ?_ _) | (with_reducible refine Kd.C_drewN ?_ _) | (with_reducible refine Kd.C_drew ?_))); (case side2 => exact HC0.out); rintro e w' ⟨rfl, ⟨nd, rfl⟩⟩; refine ⟨_, rfl, ?_⟩) | (go_at_call 107; (with_reducible refine (impl_allBetween.calls _ _ l0 0 15 t228 _ ?side1 ?side2 A4.out).mono ?_); (case side1 => repeat (first | exact HR0.out | (with_reducible refine Kd.C_alloc ?_ _) | (with_reducible refine Kd.C_drewN ?_ _) | (with_reducible refine Kd.C_drew ?_))); (case side2 => exact HC0.out); rintro e w5 ⟨rfl, hb⟩; have n0_ := Aside0.mk (below_step (by repeat (first | (with_reducible first | exact HB.out | apply below_alloc | apply pw_below_drewN | apply below_drew1) | exact HB.out)) hb); clear HB; have HB := n0_; clear n0_; (try clear hb); (try clear hb2); (try clear hk); (try clear hi)))
    go_ret
    exact ⟨by first | rfl | (simp [errW_none, errW_some] <;> rfl) | (simp [*, errW_none, errW_some] <;> rfl), by repeat (first | (with_reducible first | exact HB.out | apply below_alloc | apply pw_below_drewN | apply below_drew1) | exact HB.out)⟩
  · replace c3 := Bool.eq_false_iff.mpr c3
    subst c3
    have H1 : (some false) = some r := by rw [if_neg (show ¬ (false = true) by decide)] at H; exact H
    clear H
    have H := H1
    clear H1
    obtain rfl := Option.some.inj H
    go_enter Try.func82, Try.ntmps82
    go_wp2_with (first | ((with_reducible refine gate_callee (f := 106) rfl ?_); refine goesL_ (some 4) rfl rfl Try.func106 (by kernel_rfl) rfl #[.slice A0 l0.length c0] rfl (by (try simp only [List.map_toArray, List.map_cons, List.map_nil]); first | done | rfl | (simp only [List.length_drop, List.length_take]; rfl)) ?_; (with_reducible refine (impl_increasing.calls k _ _ l0 false _ ?side1 ?side2 A2.out).mono ?_); (case side1 => repeat (first | exact HR0.out | (with_reducible refine Kd.C_alloc ?_ _) | (with_reducible refine Kd.C_drewN ?_ _) | (with_reducible refine Kd.C_drew ?_))); (case side2 => exact HC0.out); rintro e w' ⟨rfl, ⟨nd, rfl⟩⟩; refine ⟨_, rfl, ?_⟩))
    go_ret
    exact ⟨by first | rfl | (simp [errW_none, errW_some] <;> rfl) | (simp [*, errW_none, errW_some] <;> rfl), by repeat (first | (with_reducible first | exact HB.out | apply below_alloc | apply pw_below_drewN | apply below_drew1) | exact HB.out)⟩

/-! ### impl_heardOk: function 63 -/
def impl_heardOk.f (k : Nat) (l0 : List Int) : Option (Bool) := (impl_outOk.f k l0).bind fun t229 => (some t229)
theorem impl_heardOk.mono : ∀ a0 k, LeO (impl_heardOk.f k a0) (impl_heardOk.f (k + 1) a0) := by
  intro a0 k
  unfold impl_heardOk.f
  repeat' first
      | (with_reducible exact impl_outOk.mono _ _)
      | (with_reducible exact LeO.refl _)
      | (with_reducible exact LeO.none _)
      | (with_reducible refine LeO.ite ?_ ?_)
      | (with_reducible refine LeO.bind ?_ (fun _ => ?_))
      | exact impl_outOk.mono _ _
      | exact LeO.none _
      | refine LeO.ite ?_ ?_
      | refine LeO.bind ?_ (fun _ => ?_)
set_option maxHeartbeats 8000000 in
set_option maxRecDepth 100000 in
theorem impl_heardOk.calls (k : Nat) (A0 : Option Addr) (c0 : Nat) (l0 : List Int) (r : Bool) (w : World) (hr0 : Kd.C (Kd.int .i64) w A0 l0.length l0) (hc0 : l0.length ≤ c0) (h : impl_heardOk.f k l0 = some r) :
    Calls Try.prog 63 #[.slice A0 l0.length c0] w fun e w' => e = .returned (.bool r) ∧ Below w.heap.size w w' := by
  have HR0 := Aside0.mk hr0
  have HC0 := Aside0.mk hc0
  clear hr0 hc0
  have HB := Aside0.mk (Below.refl w.heap.size w)
  have H : ((impl_outOk.f k l0).bind fun t229 => (some t229)) = some r := h
  clear h
  replace H := Option.bind_eq_some_iff.mp H
  obtain ⟨t229, A20, H⟩ := H
  replace H : (some t229) = some r := H
  have A2 := Aside0.mk A20
  clear A20
  obtain rfl := Option.some.inj H
  go_enter Try.func63, Try.ntmps63
  go_wp2_with (first | ((with_reducible refine gate_callee (f := 82) rfl ?_); refine goesL_ (some 4) rfl rfl Try.func82 (by kernel_rfl) rfl #[.slice A0 l0.length c0] rfl (by (try simp only [List.map_toArray, List.map_cons, List.map_nil]); first | done | rfl | (simp only [List.length_drop, List.length_take]; rfl)) ?_; (with_reducible refine (impl_outOk.calls k _ _ l0 t229 _ ?side1 ?side2 A2.out).mono ?_); (case side1 => repeat (first | exact HR0.out | (with_reducible refine Kd.C_alloc ?_ _) | (with_reducible refine Kd.C_drewN ?_ _) | (with_reducible refine Kd.C_drew ?_))); (case side2 => exact HC0.out); rintro e w3 ⟨rfl, hb⟩; refine ⟨_, rfl, ?_⟩; have n0_ := Aside0.mk (below_step (by repeat (first | (with_reducible first | exact HB.out | apply below_alloc | apply pw_below_drewN | apply below_drew1) | exact HB.out)) hb); clear HB; have HB := n0_; clear n0_; (try clear hb); (try clear hb2); (try clear hk); (try clear hi)))
  go_ret
  exact ⟨by first | rfl | (simp [errW_none, errW_some] <;> rfl) | (simp [*, errW_none, errW_some] <;> rfl), by repeat (first | (with_reducible first | exact HB.out | apply below_alloc | apply pw_below_drewN | apply below_drew1) | exact HB.out)⟩

/-! ### slices_Clone_int64_int64: function 93 -/
def slices_Clone_int64_int64.f (l0 : List Int) : Option (List Int) := if l0.length < 17592186044416 then some l0 else none
set_option maxHeartbeats 8000000 in
set_option maxRecDepth 100000 in
theorem slices_Clone_int64_int64.calls (A0 : Option Addr) (c0 : Nat) (l0 : List Int) (r : List Int) (w : World) (hr0 : Kd.C (Kd.int .i64) w A0 l0.length l0) (hc0 : l0.length ≤ c0) (h : slices_Clone_int64_int64.f l0 = some r) :
    Calls Try.prog 93 #[.slice A0 l0.length c0] w fun e w' => ∃ v0_ : Value, e = .returned (v0_) ∧ Kd.R (Kd.int .i64) 2 w' w.heap.size (fun _ => True) v0_ r ∧ Below w.heap.size w w' := by
  have c2 : l0.length < 17592186044416 := by
    by_cases c2 : l0.length < 17592186044416
    · exact c2
    · rw [slices_Clone_int64_int64.f, if_neg c2] at h; exact absurd h (by simp)
  rw [slices_Clone_int64_int64.f, if_pos c2] at h
  obtain rfl := Option.some.inj h
  clear h
  have q22 : ∀ (w : World) (a : Option Addr) (n c n' c' : Nat), (binOp .eql 22 (.slice a n c) (.slice none n' c')).run Try.prog w = .ok (.bool a.isNone) w := fun w a n c n' c' => Lib.run_eql_slice_nil w _ _ a n c n' c' Try.underlying22
  cases A0 with
  | none =>
    have hz : l0 = [] := by
      cases l0 with
      | nil => rfl
      | cons x xs =>
        obtain ⟨ad, hA, _⟩ := hr0.2.2 (by simp)
        cases hA
    subst hz
    clear hr0 hc0 c2
    go_enter Try.func93, Try.ntmps93
    go_wp2
    go_ret
    exact ⟨_, rfl, Kd.R_nil _ _ _ _ _, Below.refl _ _⟩
  | some A =>
    have HR0 := Aside0.mk hr0
    have HC0 := Aside0.mk hc0
    clear hr0 hc0
    have LMc2 := Aside0.mk c2
    clear c2
    have HB := Aside0.mk (Below.refl w.heap.size w)
    go_enter Try.func93, Try.ntmps93
    go_wp2_with (first | ((with_reducible refine gate_dst (N := 5) rfl ?_); refine Kd.R_lit (Kd.int .i64) _ 2 ?hg (N := 5) ?hd (xs := ([] : List Int)) (inner := []) (ok := fun _ => True) (okp := fun _ => True) ?hr ?hp (fun _ hk => hk) trivial (Below.refl _ _) (Nat.le_refl _) (by simp) ?_; (case hd => rfl); (case hg => rfl); (case hr => first | (go_simp; done) | (go_simp; rfl)); (case hp => exact (Reps.none _ _)); intro v351 w3 ho4 hb hg_ hnew_; clear hg_ hnew_; have n0_ := Aside0.mk (Kd.R_lower ho4 (below_size HB.out)); have n1_ := Aside0.mk (below_step HB.out hb); clear HB; have HO352 := n0_; have HB := n1_; clear n0_ n1_; clear hb ho4) | ((with_reducible refine gate_builtin (b := .append) (xs := #[.tmp 5, .tmp 6]) rfl ?_); at_builtin; refine Kd.R_append_rows (Kd.int .i64) (w0 := w) w.heap.size rfl (.tmp 5) (.tmp 6) 22 2 (.int .i64 0) 8 rfl Try.underlying22 info2 rfl (by decide) (by omega) v351 [] l0 _ _ _ (fun _ => True) (fun _ => False) rfl rfl ?aO ?aR (fun _ _ h => h) (fun _ h => h.elim) ?aF ?aB ?aS ?aL ?_; (case aR => exact (Kd.C_below HR0.out HB.out)); (case aB => exact HB.out); (case aF => exact (fun _ _ => trivial)); (case aO => exact HO352.out); (case aS => exact (below_size HB.out)); (case aL => have := LMc2.out; simp only [List.length_nil]; omega); intro v354 w5 ho hb hg hat; have n0_ := Aside0.mk (hb); have n1_ := Aside0.mk (ho); clear HB; clear HO352; have HB := n0_; have HO355 := n1_; clear n0_ n1_; clear ho hb hg hat))
    go_ret
    exact ⟨_, rfl, by simpa using HO355.out, HB.out⟩

end Go.Proofs.Ytfeaokelfbjcdaa.MFnExactHeardEnough
