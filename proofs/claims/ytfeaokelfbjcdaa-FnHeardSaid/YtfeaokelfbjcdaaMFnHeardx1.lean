-- Written by a program of this session (wip/tools/myprint.py) over the kit's print: it is not the kit's print.
import Derived.Test.YtfeaokelfbjcdaaExtra
import Derived.Test.YtfeaokelfbjcdaaMFnHeardx0
namespace Go.Proofs.Ytfeaokelfbjcdaa.MFnHeard
open Go.RowKit Go.Proofs.YtfeaokelfbjcdaaW.PrintWords Go.Proofs.YtfeaokelfbjcdaaW.PrintLast Go.Proofs.YtfeaokelfbjcdaaW.PrintMore
open List renaming map_toArray → mta, map_cons → mco, map_nil → mni, length_drop → lnd, length_take → lnt
open World renaming block_lt_of_cell? → blc
attribute [local go_sem] max2_int min2_int max_two min_two max_three min_three max_four min_four   -- for this text's walks alone
set_option linter.unusedVariables false
set_option linter.unusedSimpArgs false

/-! ### spec_l00In: function 65 -/
def spec_l00In.f (a0 : Int) (a1 : Int) (a2 : Int) : Option (Bool) := if a0 ≥ a1 then (some (decide (a0 ≤ a2))) else (some false)
set_option maxHeartbeats 8000000 in
set_option maxRecDepth 100000 in
theorem spec_l00In.calls (a0 : Int) (a1 : Int) (a2 : Int) (r : Bool) (w : World) (h : spec_l00In.f a0 a1 a2 = some r) :
  Calls Try.prog 65 #[.int .i64 a0, .int .i64 a1, .int .i64 a2] w fun e w' => e = .returned (.bool r) ∧ Drawn0 w w' := by
 have H : (if a0 ≥ a1 then (some (decide (a0 ≤ a2))) else (some false)) = some r := h
 clear h
 by_cases c4 : a0 ≥ a1
 ·rw [if_pos c4] at H
  have c4b0 : decide (a1 ≤ a0) = true := decide_eq_true c4
  clear c4
  obtain rfl := Option.some.inj H
  go_enter Try.func65, Try.ntmps65
  go_wp2
  go_ret
  exact ⟨by first | rfl | (simp; done) | (simp [*]; done), by repeat (first | exact Drawn0.refl _ | apply Drawn0.step)⟩
 ·rw [if_neg c4] at H
  have c4b0 : decide (a1 ≤ a0) = false := decide_eq_false c4
  clear c4
  obtain rfl := Option.some.inj H
  go_enter Try.func65, Try.ntmps65
  go_wp2
  go_ret
  exact ⟨by first | rfl | (simp; done) | (simp [*]; done), by repeat (first | exact Drawn0.refl _ | apply Drawn0.step)⟩

/-! ### spec_l00Has: function 74 -/
def spec_l00Has.l0 : Nat → List Int → Int → Int → Option (Bool)
 | 0, _, _, _ => none
 | k + 1, x0, x1, x5 => if x5 < (x0.length : Int) then (if 0 ≤ x5 then (if (rd x0 x5) = x1 then (some true) else (spec_l00Has.l0 k x0 x1 (wrap64 (x5 + 1)))) else (none)) else (some false)
def spec_l00Has.f (k : Nat) (l0 : List Int) (a1 : Int) : Option (Bool) := spec_l00Has.l0 k l0 a1 0
theorem spec_l00Has.mono_l : ∀ k, (∀ y0 y1 y2, LeO (spec_l00Has.l0 k y0 y1 y2) (spec_l00Has.l0 (k + 1) y0 y1 y2))
 | 0 => fun _ _ _ r h => by simp [spec_l00Has.l0] at h
 | k + 1 => by
  have ih0 := spec_l00Has.mono_l k
  ·intro y0 y1 y2
   unfold spec_l00Has.l0
   repeat' first
   | (with_reducible exact ih0 _ _ _)
   | (with_reducible exact LeO.refl _)
   | (with_reducible exact LeO.none _)
   | (with_reducible refine LeO.ite ?_ ?_)
   | (with_reducible refine LeO.bind ?_ (fun _ => ?_))
   | exact ih0 _ _ _
   | exact LeO.none _
   | refine LeO.ite ?_ ?_
   | refine LeO.bind ?_ (fun _ => ?_)
theorem spec_l00Has.mono : ∀ a0 a1 k, LeO (spec_l00Has.f k a0 a1) (spec_l00Has.f (k + 1) a0 a1) := by
 intro a0 a1 k
 have ih0 := spec_l00Has.mono_l k
 unfold spec_l00Has.f
 repeat' first
   | (with_reducible exact ih0 _ _ _)
   | (with_reducible exact LeO.refl _)
   | (with_reducible exact LeO.none _)
   | (with_reducible refine LeO.ite ?_ ?_)
   | (with_reducible refine LeO.bind ?_ (fun _ => ?_))
   | exact ih0 _ _ _
   | exact LeO.none _
   | refine LeO.ite ?_ ?_
   | refine LeO.bind ?_ (fun _ => ?_)
set_option maxHeartbeats 8000000 in
set_option maxRecDepth 100000 in
theorem spec_l00Has.calls (k : Nat) (A0 : Option Addr) (c0 : Nat) (l0 : List Int) (a1 : Int) (r : Bool) (w : World) (hr0 : Kd.C (Kd.int .i64) w A0 l0.length l0) (hc0 : l0.length ≤ c0) (h : spec_l00Has.f k l0 a1 = some r) :
  Calls Try.prog 74 #[.slice A0 l0.length c0, .int .i64 a1] w fun e w' => e = .returned (.bool r) ∧ Drawn0 w w' := by
 have HR0 := am hr0
 have HC0 := am hc0
 clear hr0 hc0
 have H : (spec_l00Has.l0 k l0 a1 0) = some r := h
 clear h
 have H' := am H
 clear H
 go_enter Try.func74, Try.ntmps74
 go_wp2
 go_loopg [5] k (fun kq v5 w' => ∃ (x5_1 : Int), v5 = .int .i64 x5_1 ∧ Aside0 (spec_l00Has.l0 kq l0 a1 x5_1 = some r) ∧ Aside0 (kq ≤ k) ∧ Drawn0 w w')
 case atStart => exact ⟨(0), (by first | rfl | (simp; done) | (simp [*]; done)), H', ⟨Nat.le_refl _⟩, by repeat (first | exact Drawn0.refl _ | apply Drawn0.step)⟩
 case round =>
  clear H'
  obtain ⟨x5_1, rfl, HA, HK1, ⟨m1, rfl⟩⟩ := hrel
  cases gk with
  | zero => exact absurd HA.out (by simp [spec_l00Has.l0])
  | succ k1 =>
   have H := HA.out
   clear HA
   simp only [spec_l00Has.l0] at H
   by_cases c3 : x5_1 < (l0.length : Int)
   ·rw [if_pos c3] at H
    have c3b0 : decide (x5_1 < (l0.length : Int)) = true := decide_eq_true c3
    clear c3
    by_cases c4 : 0 ≤ x5_1
    ·rw [if_pos c4] at H
     have c4b0 : decide (0 ≤ x5_1) = true := decide_eq_true c4
     clear c4
     by_cases c5 : (rd l0 x5_1) = a1
     ·rw [if_pos c5] at H
      have c5b0 : ((rd l0 x5_1) == a1) = true := beq_iff_eq.mpr c5
      have c5b1 : ((rd l0 x5_1) != a1) = false := bne_eq_false_iff_eq.mpr c5
      clear c5
      obtain rfl := Option.some.inj H
      have p101 : 0 ≤ (x5_1 : Int) := of_decide_eq_true (by first | (with_reducible assumption) | assumption)
      have q101 : x5_1 < (l0.length : Int) := of_decide_eq_true (by first | (with_reducible assumption) | assumption)
      obtain ⟨ad101, e101, hx101_0⟩ := Kd.at_int HR0.out x5_1 p101 q101
      cases e101
      replace p101 := eq_true p101
      replace q101 := eq_true q101
      go_wp2
      go_ret
      exact ⟨by first | rfl | (simp; done) | (simp [*]; done), by repeat (first | exact Drawn0.refl _ | apply Drawn0.step)⟩
     ·rw [if_neg c5] at H
      have c5b0 : ((rd l0 x5_1) == a1) = false := beq_eq_false_iff_ne.mpr c5
      have c5b1 : ((rd l0 x5_1) != a1) = true := bne_iff_ne.mpr c5
      have H' := am H
      clear H
      have p101 : 0 ≤ (x5_1 : Int) := of_decide_eq_true (by first | (with_reducible assumption) | assumption)
      have q101 : x5_1 < (l0.length : Int) := of_decide_eq_true (by first | (with_reducible assumption) | assumption)
      obtain ⟨ad101, e101, hx101_0⟩ := Kd.at_int HR0.out x5_1 p101 q101
      cases e101
      replace p101 := eq_true p101
      replace q101 := eq_true q101
      go_wp2
      go_roundg k1
      case measure => have := HK1.out; omega
      case rel => exact ⟨(wrap64 (x5_1 + 1)), (by first | rfl | (simp; done) | (simp [*]; done)), H', ⟨by have := HK1.out; omega⟩, by repeat (first | exact Drawn0.refl _ | apply Drawn0.step)⟩
    ·rw [if_neg c4] at H
     exact absurd H (by simp)
   ·rw [if_neg c3] at H
    have c3b0 : decide (x5_1 < (l0.length : Int)) = false := decide_eq_false c3
    clear c3
    obtain rfl := Option.some.inj H
    go_wp2
    go_ret
    exact ⟨by first | rfl | (simp; done) | (simp [*]; done), by repeat (first | exact Drawn0.refl _ | apply Drawn0.step)⟩

/-! ### spec_l12Ok: function 46 -/
mutual
def spec_l12Ok.j0 : Nat → List Int → Bool → Option (Bool)
 | 0, _, _ => none
 | k + 1, x0, x11 => if x11 = true then (some false) else (spec_l12Ok.l0 k x0 0)
def spec_l12Ok.l0 : Nat → List Int → Int → Option (Bool)
 | 0, _, _ => none
 | k + 1, x0, x3 => if x3 < (x0.length : Int) then (if 0 ≤ x3 then ((spec_l00In.f (rd x0 x3) (-1) 15).bind fun t103 => (if t103 = true then (if (rd x0 x3) ≥ 0 then (if x3 ≤ (x0.length : Int) then ((spec_l00Has.f k (x0.take (x3 : Int).toNat) (rd x0 x3)).bind fun t107 => (if t107 = true then (some false) else (spec_l12Ok.l0 k x0 (wrap64 (x3 + 1))))) else (none)) else (spec_l12Ok.l0 k x0 (wrap64 (x3 + 1)))) else (some false))) else (none)) else (some true)
end
def spec_l12Ok.f (k : Nat) (l0 : List Int) : Option (Bool) := if (l0.length : Int) < 1 then (spec_l12Ok.j0 k l0 true) else (spec_l12Ok.j0 k l0 (decide ((l0.length : Int) > 7)))
theorem spec_l12Ok.mono_l : ∀ k, (∀ y0 y1, LeO (spec_l12Ok.j0 k y0 y1) (spec_l12Ok.j0 (k + 1) y0 y1)) ∧ (∀ y0 y1, LeO (spec_l12Ok.l0 k y0 y1) (spec_l12Ok.l0 (k + 1) y0 y1))
 | 0 => ⟨fun _ _ r h => by simp [spec_l12Ok.j0] at h, fun _ _ r h => by simp [spec_l12Ok.l0] at h⟩
 | k + 1 => by
  obtain ⟨ih0, ih1⟩ := spec_l12Ok.mono_l k
  refine ⟨?_, ?_⟩
  ·intro y0 y1
   unfold spec_l12Ok.j0
   repeat' first
   | (with_reducible exact ih0 _ _)
   | (with_reducible exact ih1 _ _)
   | (with_reducible exact spec_l00Has.mono _ _ _)
   | (with_reducible exact LeO.refl _)
   | (with_reducible exact LeO.none _)
   | (with_reducible refine LeO.ite ?_ ?_)
   | (with_reducible refine LeO.bind ?_ (fun _ => ?_))
   | exact ih0 _ _
   | exact ih1 _ _
   | exact spec_l00Has.mono _ _ _
   | exact LeO.none _
   | refine LeO.ite ?_ ?_
   | refine LeO.bind ?_ (fun _ => ?_)
  ·intro y0 y1
   unfold spec_l12Ok.l0
   repeat' first
   | (with_reducible exact ih0 _ _)
   | (with_reducible exact ih1 _ _)
   | (with_reducible exact spec_l00Has.mono _ _ _)
   | (with_reducible exact LeO.refl _)
   | (with_reducible exact LeO.none _)
   | (with_reducible refine LeO.ite ?_ ?_)
   | (with_reducible refine LeO.bind ?_ (fun _ => ?_))
   | exact ih0 _ _
   | exact ih1 _ _
   | exact spec_l00Has.mono _ _ _
   | exact LeO.none _
   | refine LeO.ite ?_ ?_
   | refine LeO.bind ?_ (fun _ => ?_)
theorem spec_l12Ok.mono : ∀ a0 k, LeO (spec_l12Ok.f k a0) (spec_l12Ok.f (k + 1) a0) := by
 intro a0 k
 obtain ⟨ih0, ih1⟩ := spec_l12Ok.mono_l k
 unfold spec_l12Ok.f
 repeat' first
   | (with_reducible exact ih0 _ _)
   | (with_reducible exact ih1 _ _)
   | (with_reducible exact spec_l00Has.mono _ _ _)
   | (with_reducible exact LeO.refl _)
   | (with_reducible exact LeO.none _)
   | (with_reducible refine LeO.ite ?_ ?_)
   | (with_reducible refine LeO.bind ?_ (fun _ => ?_))
   | exact ih0 _ _
   | exact ih1 _ _
   | exact spec_l00Has.mono _ _ _
   | exact LeO.none _
   | refine LeO.ite ?_ ?_
   | refine LeO.bind ?_ (fun _ => ?_)
set_option maxHeartbeats 8000000 in
set_option maxRecDepth 100000 in
theorem spec_l12Ok.calls (k : Nat) (A0 : Option Addr) (c0 : Nat) (l0 : List Int) (r : Bool) (w : World) (hr0 : Kd.C (Kd.int .i64) w A0 l0.length l0) (hc0 : l0.length ≤ c0) (h : spec_l12Ok.f k l0 = some r) :
  Calls Try.prog 46 #[.slice A0 l0.length c0] w fun e w' => e = .returned (.bool r) ∧ Drawn0 w w' := by
 have HR0 := am hr0
 have HC0 := am hc0
 clear hr0 hc0
 have H : (if (l0.length : Int) < 1 then (spec_l12Ok.j0 k l0 true) else (spec_l12Ok.j0 k l0 (decide ((l0.length : Int) > 7)))) = some r := h
 clear h
 have HC2 := am H
 clear H
 go_enter Try.func46, Try.ntmps46
 go_upto_region 1 with (fail)
 repeat (go_quiet (fail); go_upto_region 1 with (fail))
 go_cut [11] (fun v11 wc => ∃ (kq : Nat) (x11_1 : Bool), v11 = .bool x11_1 ∧ Aside0 (spec_l12Ok.j0 kq l0 x11_1 = some r) ∧ Aside0 (kq ≤ k) ∧ Drawn0 w wc)
 case first =>
  have H := HC2.out
  clear HC2
  by_cases c3 : (l0.length : Int) < 1
  ·rw [if_pos c3] at H
   have c3b0 : decide ((l0.length : Int) < 1) = true := decide_eq_true c3
   have c3b1 : decide (l0.length < 1) = true := decide_eq_true (by omega)
   clear c3
   (first | rw [c3b0] | (simp only [i64_w, i32_w]; rw [c3b0]) | skip)
   have H' := am H
   clear H
   go_wp2
   repeat (go_quiet (fail); try go_wp2)
   go_meet
   case rel => exact ⟨_, (true), (by first | rfl | (simp; done) | (simp [*]; done)), H', ⟨by first | omega | exact Nat.le_refl _⟩, by repeat (first | exact Drawn0.refl _ | apply Drawn0.step)⟩
  ·rw [if_neg c3] at H
   have c3b0 : decide ((l0.length : Int) < 1) = false := decide_eq_false c3
   have c3b1 : decide (l0.length < 1) = false := decide_eq_false (by omega)
   clear c3
   (first | rw [c3b0] | (simp only [i64_w, i32_w]; rw [c3b0]) | skip)
   have H' := am H
   clear H
   go_wp2
   repeat (go_quiet (fail); try go_wp2)
   go_meet
   case rel => exact ⟨_, (decide ((l0.length : Int) > 7)), (by first | rfl | (simp; done) | (simp [*]; done)), H', ⟨by first | omega | exact Nat.le_refl _⟩, by repeat (first | exact Drawn0.refl _ | apply Drawn0.step)⟩
 case rest =>
  clear HC2
  obtain ⟨kq, x11_1, rfl, HA, HJ1, ⟨mc1, rfl⟩⟩ := hcut
  cases kq with
  | zero => exact absurd HA.out (by simp [spec_l12Ok.j0])
  | succ kj1 =>
   have H := HA.out
   clear HA
   simp only [spec_l12Ok.j0] at H
   by_cases c4 : x11_1 = true
   ·subst c4
    have H1 : (some false) = some r := by rw [if_pos rfl] at H; exact H
    clear H
    have H := H1
    clear H1
    obtain rfl := Option.some.inj H
    go_wp2
    repeat (go_quiet (fail); try go_wp2)
    go_ret
    exact ⟨by first | rfl | (simp; done) | (simp [*]; done), by repeat (first | exact Drawn0.refl _ | apply Drawn0.step)⟩
   ·replace c4 := Bool.eq_false_iff.mpr c4
    subst c4
    have H1 : (spec_l12Ok.l0 kj1 l0 0) = some r := by rw [if_neg (show ¬ (false = true) by decide)] at H; exact H
    clear H
    have H := H1
    clear H1
    have H' := am H
    clear H
    go_wp2
    repeat (go_quiet (fail); try go_wp2)
    go_loopg [3] kj1 (fun kq v3 w' => ∃ (x3_2 : Int), v3 = .int .i64 x3_2 ∧ Aside0 (spec_l12Ok.l0 kq l0 x3_2 = some r) ∧ Aside0 (kq ≤ kj1) ∧ Drawn0 w w')
    case atStart => exact ⟨(0), (by first | rfl | (simp; done) | (simp [*]; done)), H', ⟨Nat.le_refl _⟩, by repeat (first | exact Drawn0.refl _ | apply Drawn0.step)⟩
    case round =>
     clear H'
     obtain ⟨x3_2, rfl, HA, HK2, ⟨m2, rfl⟩⟩ := hrel
     cases gk with
     | zero => exact absurd HA.out (by simp [spec_l12Ok.l0])
     | succ k2 =>
      have H := HA.out
      clear HA
      simp only [spec_l12Ok.l0] at H
      by_cases c5 : x3_2 < (l0.length : Int)
      ·rw [if_pos c5] at H
       have c5b0 : decide (x3_2 < (l0.length : Int)) = true := decide_eq_true c5
       clear c5
       by_cases c6 : 0 ≤ x3_2
       ·rw [if_pos c6] at H
        have c6b0 : decide (0 ≤ x3_2) = true := decide_eq_true c6
        clear c6
        replace H := Option.bind_eq_some_iff.mp H
        obtain ⟨t103, A70, H⟩ := H
        replace H : (if t103 = true then (if (rd l0 x3_2) ≥ 0 then (if x3_2 ≤ (l0.length : Int) then ((spec_l00Has.f k2 (l0.take (x3_2 : Int).toNat) (rd l0 x3_2)).bind fun t107 => (if t107 = true then (some false) else (spec_l12Ok.l0 k2 l0 (wrap64 (x3_2 + 1))))) else (none)) else (spec_l12Ok.l0 k2 l0 (wrap64 (x3_2 + 1)))) else (some false)) = some r := H
        have A7 := am A70
        clear A70
        by_cases c8 : t103 = true
        ·subst c8
         have H1 : (if (rd l0 x3_2) ≥ 0 then (if x3_2 ≤ (l0.length : Int) then ((spec_l00Has.f k2 (l0.take (x3_2 : Int).toNat) (rd l0 x3_2)).bind fun t107 => (if t107 = true then (some false) else (spec_l12Ok.l0 k2 l0 (wrap64 (x3_2 + 1))))) else (none)) else (spec_l12Ok.l0 k2 l0 (wrap64 (x3_2 + 1)))) = some r := by rw [if_pos rfl] at H; exact H
         clear H
         have H := H1
         clear H1
         by_cases c9 : (rd l0 x3_2) ≥ 0
         ·rw [if_pos c9] at H
          have c9b0 : decide (0 ≤ (rd l0 x3_2)) = true := decide_eq_true c9
          clear c9
          have c10b0 := eq_true (of_decide_eq_true (by first | (with_reducible assumption) | assumption) : 0 ≤ x3_2)
          by_cases c11 : x3_2 ≤ (l0.length : Int)
          ·rw [if_pos c11] at H
           have c11b0 := eq_true c11
           have c11b1 : decide (x3_2 ≤ (l0.length : Int)) = true := decide_eq_true c11
           clear c11
           replace H := Option.bind_eq_some_iff.mp H
           obtain ⟨t107, A120, H⟩ := H
           replace H : (if t107 = true then (some false) else (spec_l12Ok.l0 k2 l0 (wrap64 (x3_2 + 1)))) = some r := H
           have A12 := am A120
           clear A120
           by_cases c13 : t107 = true
           ·subst c13
            have H1 : (some false) = some r := by rw [if_pos rfl] at H; exact H
            clear H
            have H := H1
            clear H1
            obtain rfl := Option.some.inj H
            have p102 : 0 ≤ (x3_2 : Int) := of_decide_eq_true (by first | (with_reducible assumption) | assumption)
            have q102 : x3_2 < (l0.length : Int) := of_decide_eq_true (by first | (with_reducible assumption) | assumption)
            obtain ⟨ad102, e102, hx102_0⟩ := Kd.at_int HR0.out x3_2 p102 q102
            cases e102
            replace p102 := eq_true p102
            replace q102 := eq_true q102
            try (have p104 : 0 ≤ (x3_2 : Int) := of_decide_eq_true (by first | (with_reducible assumption) | assumption); have q104 : x3_2 < (l0.length : Int) := of_decide_eq_true (by first | (with_reducible assumption) | assumption); obtain ⟨ad104, e104, hx104_0⟩ := Kd.at_int HR0.out x3_2 p104 q104; obtain rfl : ad102 = ad104 := (by injection e104); replace p104 := eq_true p104; replace q104 := eq_true q104; obtain ⟨i014, hi014, _, hsz14, _⟩ := info_parts info2; obtain ⟨hcut14, hA14, hC14⟩ := print_take_of (P := Try.prog) (Value.int .i64) 0 22 2 .i64 Try.underlying22 hi014 hsz14 (some ad102) c0 l0 x3_2 (of_decide_eq_true (by first | (with_reducible assumption) | assumption)) (of_decide_eq_true (by first | (with_reducible assumption) | assumption)) HC0.out; have HL14 := am (show (x3_2 : Int).toNat = (l0.take (x3_2 : Int).toNat).length from (by rw [lnt]; have z1_ : 0 ≤ (x3_2 : Int) := (of_decide_eq_true (by first | (with_reducible assumption) | assumption)); have z2_ : (x3_2 : Int) ≤ l0.length := (of_decide_eq_true (by first | (with_reducible assumption) | assumption)); omega)); have HR105 := am (Kd.C_of_reads (h1 := fun _ => rfl) (hA14 _ (Kd.reads_of_C HR0.out))); have HC105 := am hC14; clear hA14 hC14 hi014 hsz14; have p106 : 0 ≤ (x3_2 : Int) := of_decide_eq_true (by first | (with_reducible assumption) | assumption); have q106 : x3_2 < (l0.length : Int) := of_decide_eq_true (by first | (with_reducible assumption) | assumption); obtain ⟨ad106, e106, hx106_0⟩ := Kd.at_int HR0.out x3_2 p106 q106; obtain rfl : ad102 = ad106 := (by injection e106); replace p106 := eq_true p106; replace q106 := eq_true q106)
            go_wp2_with (first | (go_at_call 65; (with_reducible refine (spec_l00In.calls (rd l0 x3_2) (-1) 15 true _ A7.out).mono ?_); rintro e w' ⟨rfl, ⟨nd, rfl⟩⟩; (try first | exact ⟨rfl, _, World.drewN_drewN _ _ _⟩ | exact ⟨rfl, _, Eq.trans (World.drewN_drewN _ _ _) (congrArg (World.drewN _) (Nat.add_assoc _ _ _))⟩); have p104 : 0 ≤ (x3_2 : Int) := of_decide_eq_true (by first | (with_reducible assumption) | assumption); have q104 : x3_2 < (l0.length : Int) := of_decide_eq_true (by first | (with_reducible assumption) | assumption); obtain ⟨ad104, e104, hx104_0⟩ := Kd.at_int HR0.out x3_2 p104 q104; obtain rfl : ad102 = ad104 := (by injection e104); replace p104 := eq_true p104; replace q104 := eq_true q104; obtain ⟨i014, hi014, _, hsz14, _⟩ := info_parts info2; obtain ⟨hcut14, hA14, hC14⟩ := print_take_of (P := Try.prog) (Value.int .i64) 0 22 2 .i64 Try.underlying22 hi014 hsz14 (some ad102) c0 l0 x3_2 (of_decide_eq_true (by first | (with_reducible assumption) | assumption)) (of_decide_eq_true (by first | (with_reducible assumption) | assumption)) HC0.out; have HL14 := am (show (x3_2 : Int).toNat = (l0.take (x3_2 : Int).toNat).length from (by rw [lnt]; have z1_ : 0 ≤ (x3_2 : Int) := (of_decide_eq_true (by first | (with_reducible assumption) | assumption)); have z2_ : (x3_2 : Int) ≤ l0.length := (of_decide_eq_true (by first | (with_reducible assumption) | assumption)); omega)); have HR105 := am (Kd.C_of_reads (h1 := fun _ => rfl) (hA14 _ (Kd.reads_of_C HR0.out))); have HC105 := am hC14; clear hA14 hC14 hi014 hsz14; have p106 : 0 ≤ (x3_2 : Int) := of_decide_eq_true (by first | (with_reducible assumption) | assumption); have q106 : x3_2 < (l0.length : Int) := of_decide_eq_true (by first | (with_reducible assumption) | assumption); obtain ⟨ad106, e106, hx106_0⟩ := Kd.at_int HR0.out x3_2 p106 q106; obtain rfl : ad102 = ad106 := (by injection e106); replace p106 := eq_true p106; replace q106 := eq_true q106) | (go_at_call 74; (try rw [HL14.out]); (with_reducible refine (spec_l00Has.calls k2 _ _ (l0.take (x3_2 : Int).toNat) (rd l0 x3_2) true _ ?side1 ?side2 A12.out).mono ?_); (case side1 => repeat (first | exact HR105.out | (with_reducible first | apply kca | apply kcn | apply kcd))); (case side2 => exact HC105.out); rintro e w' ⟨rfl, ⟨nd, rfl⟩⟩; (try first | exact ⟨rfl, _, World.drewN_drewN _ _ _⟩ | exact ⟨rfl, _, Eq.trans (World.drewN_drewN _ _ _) (congrArg (World.drewN _) (Nat.add_assoc _ _ _))⟩)))
            first | (have hz_ := q106; clear hz_) | (have p104 : 0 ≤ (x3_2 : Int) := of_decide_eq_true (by first | (with_reducible assumption) | assumption); have q104 : x3_2 < (l0.length : Int) := of_decide_eq_true (by first | (with_reducible assumption) | assumption); obtain ⟨ad104, e104, hx104_0⟩ := Kd.at_int HR0.out x3_2 p104 q104; obtain rfl : ad102 = ad104 := (by injection e104); replace p104 := eq_true p104; replace q104 := eq_true q104; obtain ⟨i014, hi014, _, hsz14, _⟩ := info_parts info2; obtain ⟨hcut14, hA14, hC14⟩ := print_take_of (P := Try.prog) (Value.int .i64) 0 22 2 .i64 Try.underlying22 hi014 hsz14 (some ad102) c0 l0 x3_2 (of_decide_eq_true (by first | (with_reducible assumption) | assumption)) (of_decide_eq_true (by first | (with_reducible assumption) | assumption)) HC0.out; have HL14 := am (show (x3_2 : Int).toNat = (l0.take (x3_2 : Int).toNat).length from (by rw [lnt]; have z1_ : 0 ≤ (x3_2 : Int) := (of_decide_eq_true (by first | (with_reducible assumption) | assumption)); have z2_ : (x3_2 : Int) ≤ l0.length := (of_decide_eq_true (by first | (with_reducible assumption) | assumption)); omega)); have HR105 := am (Kd.C_of_reads (h1 := fun _ => rfl) (hA14 _ (Kd.reads_of_C HR0.out))); have HC105 := am hC14; clear hA14 hC14 hi014 hsz14; have p106 : 0 ≤ (x3_2 : Int) := of_decide_eq_true (by first | (with_reducible assumption) | assumption); have q106 : x3_2 < (l0.length : Int) := of_decide_eq_true (by first | (with_reducible assumption) | assumption); obtain ⟨ad106, e106, hx106_0⟩ := Kd.at_int HR0.out x3_2 p106 q106; obtain rfl : ad102 = ad106 := (by injection e106); replace p106 := eq_true p106; replace q106 := eq_true q106) | skip
            repeat (go_quiet (first | (go_at_call 65; (with_reducible refine (spec_l00In.calls (rd l0 x3_2) (-1) 15 true _ A7.out).mono ?_); rintro e w' ⟨rfl, ⟨nd, rfl⟩⟩; (try first | exact ⟨rfl, _, World.drewN_drewN _ _ _⟩ | exact ⟨rfl, _, Eq.trans (World.drewN_drewN _ _ _) (congrArg (World.drewN _) (Nat.add_assoc _ _ _))⟩)) | (go_at_call 74; (try rw [HL14.out]); (with_reducible refine (spec_l00Has.calls k2 _ _ (l0.take (x3_2 : Int).toNat) (rd l0 x3_2) true _ ?side1 ?side2 A12.out).mono ?_); (case side1 => repeat (first | exact HR105.out | (with_reducible first | apply kca | apply kcn | apply kcd))); (case side2 => exact HC105.out); rintro e w' ⟨rfl, ⟨nd, rfl⟩⟩; (try first | exact ⟨rfl, _, World.drewN_drewN _ _ _⟩ | exact ⟨rfl, _, Eq.trans (World.drewN_drewN _ _ _) (congrArg (World.drewN _) (Nat.add_assoc _ _ _))⟩))); try go_wp2_with (first | (go_at_call 65; (with_reducible refine (spec_l00In.calls (rd l0 x3_2) (-1) 15 true _ A7.out).mono ?_); rintro e w' ⟨rfl, ⟨nd, rfl⟩⟩; (try first | exact ⟨rfl, _, World.drewN_drewN _ _ _⟩ | exact ⟨rfl, _, Eq.trans (World.drewN_drewN _ _ _) (congrArg (World.drewN _) (Nat.add_assoc _ _ _))⟩); have p104 : 0 ≤ (x3_2 : Int) := of_decide_eq_true (by first | (with_reducible assumption) | assumption); have q104 : x3_2 < (l0.length : Int) := of_decide_eq_true (by first | (with_reducible assumption) | assumption); obtain ⟨ad104, e104, hx104_0⟩ := Kd.at_int HR0.out x3_2 p104 q104; obtain rfl : ad102 = ad104 := (by injection e104); replace p104 := eq_true p104; replace q104 := eq_true q104; obtain ⟨i014, hi014, _, hsz14, _⟩ := info_parts info2; obtain ⟨hcut14, hA14, hC14⟩ := print_take_of (P := Try.prog) (Value.int .i64) 0 22 2 .i64 Try.underlying22 hi014 hsz14 (some ad102) c0 l0 x3_2 (of_decide_eq_true (by first | (with_reducible assumption) | assumption)) (of_decide_eq_true (by first | (with_reducible assumption) | assumption)) HC0.out; have HL14 := am (show (x3_2 : Int).toNat = (l0.take (x3_2 : Int).toNat).length from (by rw [lnt]; have z1_ : 0 ≤ (x3_2 : Int) := (of_decide_eq_true (by first | (with_reducible assumption) | assumption)); have z2_ : (x3_2 : Int) ≤ l0.length := (of_decide_eq_true (by first | (with_reducible assumption) | assumption)); omega)); have HR105 := am (Kd.C_of_reads (h1 := fun _ => rfl) (hA14 _ (Kd.reads_of_C HR0.out))); have HC105 := am hC14; clear hA14 hC14 hi014 hsz14; have p106 : 0 ≤ (x3_2 : Int) := of_decide_eq_true (by first | (with_reducible assumption) | assumption); have q106 : x3_2 < (l0.length : Int) := of_decide_eq_true (by first | (with_reducible assumption) | assumption); obtain ⟨ad106, e106, hx106_0⟩ := Kd.at_int HR0.out x3_2 p106 q106; obtain rfl : ad102 = ad106 := (by injection e106); replace p106 := eq_true p106; replace q106 := eq_true q106) | (go_at_call 74; (try rw [HL14.out]); (with_reducible refine (spec_l00Has.calls k2 _ _ (l0.take (x3_2 : Int).toNat) (rd l0 x3_2) true _ ?side1 ?side2 A12.out).mono ?_); (case side1 => repeat (first | exact HR105.out | (with_reducible first | apply kca | apply kcn | apply kcd))); (case side2 => exact HC105.out); rintro e w' ⟨rfl, ⟨nd, rfl⟩⟩; (try first | exact ⟨rfl, _, World.drewN_drewN _ _ _⟩ | exact ⟨rfl, _, Eq.trans (World.drewN_drewN _ _ _) (congrArg (World.drewN _) (Nat.add_assoc _ _ _))⟩))))
            go_ret
            exact ⟨by first | rfl | (simp; done) | (simp [*]; done), by repeat (first | exact Drawn0.refl _ | apply Drawn0.step)⟩
           ·replace c13 := Bool.eq_false_iff.mpr c13
            subst c13
            have H1 : (spec_l12Ok.l0 k2 l0 (wrap64 (x3_2 + 1))) = some r := by rw [if_neg (show ¬ (false = true) by decide)] at H; exact H
            clear H
            have H := H1
            clear H1
            have H' := am H
            clear H
            have p102 : 0 ≤ (x3_2 : Int) := of_decide_eq_true (by first | (with_reducible assumption) | assumption)
            have q102 : x3_2 < (l0.length : Int) := of_decide_eq_true (by first | (with_reducible assumption) | assumption)
            obtain ⟨ad102, e102, hx102_0⟩ := Kd.at_int HR0.out x3_2 p102 q102
            cases e102
            replace p102 := eq_true p102
            replace q102 := eq_true q102
            try (have p104 : 0 ≤ (x3_2 : Int) := of_decide_eq_true (by first | (with_reducible assumption) | assumption); have q104 : x3_2 < (l0.length : Int) := of_decide_eq_true (by first | (with_reducible assumption) | assumption); obtain ⟨ad104, e104, hx104_0⟩ := Kd.at_int HR0.out x3_2 p104 q104; obtain rfl : ad102 = ad104 := (by injection e104); replace p104 := eq_true p104; replace q104 := eq_true q104; obtain ⟨i015, hi015, _, hsz15, _⟩ := info_parts info2; obtain ⟨hcut15, hA15, hC15⟩ := print_take_of (P := Try.prog) (Value.int .i64) 0 22 2 .i64 Try.underlying22 hi015 hsz15 (some ad102) c0 l0 x3_2 (of_decide_eq_true (by first | (with_reducible assumption) | assumption)) (of_decide_eq_true (by first | (with_reducible assumption) | assumption)) HC0.out; have HL15 := am (show (x3_2 : Int).toNat = (l0.take (x3_2 : Int).toNat).length from (by rw [lnt]; have z1_ : 0 ≤ (x3_2 : Int) := (of_decide_eq_true (by first | (with_reducible assumption) | assumption)); have z2_ : (x3_2 : Int) ≤ l0.length := (of_decide_eq_true (by first | (with_reducible assumption) | assumption)); omega)); have HR105 := am (Kd.C_of_reads (h1 := fun _ => rfl) (hA15 _ (Kd.reads_of_C HR0.out))); have HC105 := am hC15; clear hA15 hC15 hi015 hsz15; have p106 : 0 ≤ (x3_2 : Int) := of_decide_eq_true (by first | (with_reducible assumption) | assumption); have q106 : x3_2 < (l0.length : Int) := of_decide_eq_true (by first | (with_reducible assumption) | assumption); obtain ⟨ad106, e106, hx106_0⟩ := Kd.at_int HR0.out x3_2 p106 q106; obtain rfl : ad102 = ad106 := (by injection e106); replace p106 := eq_true p106; replace q106 := eq_true q106)
            go_wp2_with (first | (go_at_call 65; (with_reducible refine (spec_l00In.calls (rd l0 x3_2) (-1) 15 true _ A7.out).mono ?_); rintro e w' ⟨rfl, ⟨nd, rfl⟩⟩; (try first | exact ⟨rfl, _, World.drewN_drewN _ _ _⟩ | exact ⟨rfl, _, Eq.trans (World.drewN_drewN _ _ _) (congrArg (World.drewN _) (Nat.add_assoc _ _ _))⟩); have p104 : 0 ≤ (x3_2 : Int) := of_decide_eq_true (by first | (with_reducible assumption) | assumption); have q104 : x3_2 < (l0.length : Int) := of_decide_eq_true (by first | (with_reducible assumption) | assumption); obtain ⟨ad104, e104, hx104_0⟩ := Kd.at_int HR0.out x3_2 p104 q104; obtain rfl : ad102 = ad104 := (by injection e104); replace p104 := eq_true p104; replace q104 := eq_true q104; obtain ⟨i015, hi015, _, hsz15, _⟩ := info_parts info2; obtain ⟨hcut15, hA15, hC15⟩ := print_take_of (P := Try.prog) (Value.int .i64) 0 22 2 .i64 Try.underlying22 hi015 hsz15 (some ad102) c0 l0 x3_2 (of_decide_eq_true (by first | (with_reducible assumption) | assumption)) (of_decide_eq_true (by first | (with_reducible assumption) | assumption)) HC0.out; have HL15 := am (show (x3_2 : Int).toNat = (l0.take (x3_2 : Int).toNat).length from (by rw [lnt]; have z1_ : 0 ≤ (x3_2 : Int) := (of_decide_eq_true (by first | (with_reducible assumption) | assumption)); have z2_ : (x3_2 : Int) ≤ l0.length := (of_decide_eq_true (by first | (with_reducible assumption) | assumption)); omega)); have HR105 := am (Kd.C_of_reads (h1 := fun _ => rfl) (hA15 _ (Kd.reads_of_C HR0.out))); have HC105 := am hC15; clear hA15 hC15 hi015 hsz15; have p106 : 0 ≤ (x3_2 : Int) := of_decide_eq_true (by first | (with_reducible assumption) | assumption); have q106 : x3_2 < (l0.length : Int) := of_decide_eq_true (by first | (with_reducible assumption) | assumption); obtain ⟨ad106, e106, hx106_0⟩ := Kd.at_int HR0.out x3_2 p106 q106; obtain rfl : ad102 = ad106 := (by injection e106); replace p106 := eq_true p106; replace q106 := eq_true q106) | (go_at_call 74; (try rw [HL15.out]); (with_reducible refine (spec_l00Has.calls k2 _ _ (l0.take (x3_2 : Int).toNat) (rd l0 x3_2) false _ ?side1 ?side2 A12.out).mono ?_); (case side1 => repeat (first | exact HR105.out | (with_reducible first | apply kca | apply kcn | apply kcd))); (case side2 => exact HC105.out); rintro e w' ⟨rfl, ⟨nd, rfl⟩⟩; (try first | exact ⟨rfl, _, World.drewN_drewN _ _ _⟩ | exact ⟨rfl, _, Eq.trans (World.drewN_drewN _ _ _) (congrArg (World.drewN _) (Nat.add_assoc _ _ _))⟩)))
            first | (have hz_ := q106; clear hz_) | (have p104 : 0 ≤ (x3_2 : Int) := of_decide_eq_true (by first | (with_reducible assumption) | assumption); have q104 : x3_2 < (l0.length : Int) := of_decide_eq_true (by first | (with_reducible assumption) | assumption); obtain ⟨ad104, e104, hx104_0⟩ := Kd.at_int HR0.out x3_2 p104 q104; obtain rfl : ad102 = ad104 := (by injection e104); replace p104 := eq_true p104; replace q104 := eq_true q104; obtain ⟨i015, hi015, _, hsz15, _⟩ := info_parts info2; obtain ⟨hcut15, hA15, hC15⟩ := print_take_of (P := Try.prog) (Value.int .i64) 0 22 2 .i64 Try.underlying22 hi015 hsz15 (some ad102) c0 l0 x3_2 (of_decide_eq_true (by first | (with_reducible assumption) | assumption)) (of_decide_eq_true (by first | (with_reducible assumption) | assumption)) HC0.out; have HL15 := am (show (x3_2 : Int).toNat = (l0.take (x3_2 : Int).toNat).length from (by rw [lnt]; have z1_ : 0 ≤ (x3_2 : Int) := (of_decide_eq_true (by first | (with_reducible assumption) | assumption)); have z2_ : (x3_2 : Int) ≤ l0.length := (of_decide_eq_true (by first | (with_reducible assumption) | assumption)); omega)); have HR105 := am (Kd.C_of_reads (h1 := fun _ => rfl) (hA15 _ (Kd.reads_of_C HR0.out))); have HC105 := am hC15; clear hA15 hC15 hi015 hsz15; have p106 : 0 ≤ (x3_2 : Int) := of_decide_eq_true (by first | (with_reducible assumption) | assumption); have q106 : x3_2 < (l0.length : Int) := of_decide_eq_true (by first | (with_reducible assumption) | assumption); obtain ⟨ad106, e106, hx106_0⟩ := Kd.at_int HR0.out x3_2 p106 q106; obtain rfl : ad102 = ad106 := (by injection e106); replace p106 := eq_true p106; replace q106 := eq_true q106) | skip
            repeat (go_quiet (first | (go_at_call 65; (with_reducible refine (spec_l00In.calls (rd l0 x3_2) (-1) 15 true _ A7.out).mono ?_); rintro e w' ⟨rfl, ⟨nd, rfl⟩⟩; (try first | exact ⟨rfl, _, World.drewN_drewN _ _ _⟩ | exact ⟨rfl, _, Eq.trans (World.drewN_drewN _ _ _) (congrArg (World.drewN _) (Nat.add_assoc _ _ _))⟩)) | (go_at_call 74; (try rw [HL15.out]); (with_reducible refine (spec_l00Has.calls k2 _ _ (l0.take (x3_2 : Int).toNat) (rd l0 x3_2) false _ ?side1 ?side2 A12.out).mono ?_); (case side1 => repeat (first | exact HR105.out | (with_reducible first | apply kca | apply kcn | apply kcd))); (case side2 => exact HC105.out); rintro e w' ⟨rfl, ⟨nd, rfl⟩⟩; (try first | exact ⟨rfl, _, World.drewN_drewN _ _ _⟩ | exact ⟨rfl, _, Eq.trans (World.drewN_drewN _ _ _) (congrArg (World.drewN _) (Nat.add_assoc _ _ _))⟩))); try go_wp2_with (first | (go_at_call 65; (with_reducible refine (spec_l00In.calls (rd l0 x3_2) (-1) 15 true _ A7.out).mono ?_); rintro e w' ⟨rfl, ⟨nd, rfl⟩⟩; (try first | exact ⟨rfl, _, World.drewN_drewN _ _ _⟩ | exact ⟨rfl, _, Eq.trans (World.drewN_drewN _ _ _) (congrArg (World.drewN _) (Nat.add_assoc _ _ _))⟩); have p104 : 0 ≤ (x3_2 : Int) := of_decide_eq_true (by first | (with_reducible assumption) | assumption); have q104 : x3_2 < (l0.length : Int) := of_decide_eq_true (by first | (with_reducible assumption) | assumption); obtain ⟨ad104, e104, hx104_0⟩ := Kd.at_int HR0.out x3_2 p104 q104; obtain rfl : ad102 = ad104 := (by injection e104); replace p104 := eq_true p104; replace q104 := eq_true q104; obtain ⟨i015, hi015, _, hsz15, _⟩ := info_parts info2; obtain ⟨hcut15, hA15, hC15⟩ := print_take_of (P := Try.prog) (Value.int .i64) 0 22 2 .i64 Try.underlying22 hi015 hsz15 (some ad102) c0 l0 x3_2 (of_decide_eq_true (by first | (with_reducible assumption) | assumption)) (of_decide_eq_true (by first | (with_reducible assumption) | assumption)) HC0.out; have HL15 := am (show (x3_2 : Int).toNat = (l0.take (x3_2 : Int).toNat).length from (by rw [lnt]; have z1_ : 0 ≤ (x3_2 : Int) := (of_decide_eq_true (by first | (with_reducible assumption) | assumption)); have z2_ : (x3_2 : Int) ≤ l0.length := (of_decide_eq_true (by first | (with_reducible assumption) | assumption)); omega)); have HR105 := am (Kd.C_of_reads (h1 := fun _ => rfl) (hA15 _ (Kd.reads_of_C HR0.out))); have HC105 := am hC15; clear hA15 hC15 hi015 hsz15; have p106 : 0 ≤ (x3_2 : Int) := of_decide_eq_true (by first | (with_reducible assumption) | assumption); have q106 : x3_2 < (l0.length : Int) := of_decide_eq_true (by first | (with_reducible assumption) | assumption); obtain ⟨ad106, e106, hx106_0⟩ := Kd.at_int HR0.out x3_2 p106 q106; obtain rfl : ad102 = ad106 := (by injection e106); replace p106 := eq_true p106; replace q106 := eq_true q106) | (go_at_call 74; (try rw [HL15.out]); (with_reducible refine (spec_l00Has.calls k2 _ _ (l0.take (x3_2 : Int).toNat) (rd l0 x3_2) false _ ?side1 ?side2 A12.out).mono ?_); (case side1 => repeat (first | exact HR105.out | (with_reducible first | apply kca | apply kcn | apply kcd))); (case side2 => exact HC105.out); rintro e w' ⟨rfl, ⟨nd, rfl⟩⟩; (try first | exact ⟨rfl, _, World.drewN_drewN _ _ _⟩ | exact ⟨rfl, _, Eq.trans (World.drewN_drewN _ _ _) (congrArg (World.drewN _) (Nat.add_assoc _ _ _))⟩))))
            go_roundg k2
            case measure => have := HJ1.out; have := HK2.out; omega
            case rel => exact ⟨(wrap64 (x3_2 + 1)), (by first | rfl | (simp; done) | (simp [*]; done)), H', ⟨by have := HJ1.out; have := HK2.out; omega⟩, by repeat (first | exact Drawn0.refl _ | apply Drawn0.step)⟩
          ·rw [if_neg c11] at H
           exact absurd H (by simp)
         ·rw [if_neg c9] at H
          have c9b0 : decide (0 ≤ (rd l0 x3_2)) = false := decide_eq_false c9
          clear c9
          have H' := am H
          clear H
          have p102 : 0 ≤ (x3_2 : Int) := of_decide_eq_true (by first | (with_reducible assumption) | assumption)
          have q102 : x3_2 < (l0.length : Int) := of_decide_eq_true (by first | (with_reducible assumption) | assumption)
          obtain ⟨ad102, e102, hx102_0⟩ := Kd.at_int HR0.out x3_2 p102 q102
          cases e102
          replace p102 := eq_true p102
          replace q102 := eq_true q102
          try (have p104 : 0 ≤ (x3_2 : Int) := of_decide_eq_true (by first | (with_reducible assumption) | assumption); have q104 : x3_2 < (l0.length : Int) := of_decide_eq_true (by first | (with_reducible assumption) | assumption); obtain ⟨ad104, e104, hx104_0⟩ := Kd.at_int HR0.out x3_2 p104 q104; obtain rfl : ad102 = ad104 := (by injection e104); replace p104 := eq_true p104; replace q104 := eq_true q104)
          go_wp2_with (first | (go_at_call 65; (with_reducible refine (spec_l00In.calls (rd l0 x3_2) (-1) 15 true _ A7.out).mono ?_); rintro e w' ⟨rfl, ⟨nd, rfl⟩⟩; (try first | exact ⟨rfl, _, World.drewN_drewN _ _ _⟩ | exact ⟨rfl, _, Eq.trans (World.drewN_drewN _ _ _) (congrArg (World.drewN _) (Nat.add_assoc _ _ _))⟩); have p104 : 0 ≤ (x3_2 : Int) := of_decide_eq_true (by first | (with_reducible assumption) | assumption); have q104 : x3_2 < (l0.length : Int) := of_decide_eq_true (by first | (with_reducible assumption) | assumption); obtain ⟨ad104, e104, hx104_0⟩ := Kd.at_int HR0.out x3_2 p104 q104; obtain rfl : ad102 = ad104 := (by injection e104); replace p104 := eq_true p104; replace q104 := eq_true q104))
          first | (have hz_ := q104; clear hz_) | (have p104 : 0 ≤ (x3_2 : Int) := of_decide_eq_true (by first | (with_reducible assumption) | assumption); have q104 : x3_2 < (l0.length : Int) := of_decide_eq_true (by first | (with_reducible assumption) | assumption); obtain ⟨ad104, e104, hx104_0⟩ := Kd.at_int HR0.out x3_2 p104 q104; obtain rfl : ad102 = ad104 := (by injection e104); replace p104 := eq_true p104; replace q104 := eq_true q104) | skip
          repeat (go_quiet (first | (go_at_call 65; (with_reducible refine (spec_l00In.calls (rd l0 x3_2) (-1) 15 true _ A7.out).mono ?_); rintro e w' ⟨rfl, ⟨nd, rfl⟩⟩; (try first | exact ⟨rfl, _, World.drewN_drewN _ _ _⟩ | exact ⟨rfl, _, Eq.trans (World.drewN_drewN _ _ _) (congrArg (World.drewN _) (Nat.add_assoc _ _ _))⟩))); try go_wp2_with (first | (go_at_call 65; (with_reducible refine (spec_l00In.calls (rd l0 x3_2) (-1) 15 true _ A7.out).mono ?_); rintro e w' ⟨rfl, ⟨nd, rfl⟩⟩; (try first | exact ⟨rfl, _, World.drewN_drewN _ _ _⟩ | exact ⟨rfl, _, Eq.trans (World.drewN_drewN _ _ _) (congrArg (World.drewN _) (Nat.add_assoc _ _ _))⟩); have p104 : 0 ≤ (x3_2 : Int) := of_decide_eq_true (by first | (with_reducible assumption) | assumption); have q104 : x3_2 < (l0.length : Int) := of_decide_eq_true (by first | (with_reducible assumption) | assumption); obtain ⟨ad104, e104, hx104_0⟩ := Kd.at_int HR0.out x3_2 p104 q104; obtain rfl : ad102 = ad104 := (by injection e104); replace p104 := eq_true p104; replace q104 := eq_true q104)))
          go_roundg k2
          case measure => have := HJ1.out; have := HK2.out; omega
          case rel => exact ⟨(wrap64 (x3_2 + 1)), (by first | rfl | (simp; done) | (simp [*]; done)), H', ⟨by have := HJ1.out; have := HK2.out; omega⟩, by repeat (first | exact Drawn0.refl _ | apply Drawn0.step)⟩
        ·replace c8 := Bool.eq_false_iff.mpr c8
         subst c8
         have H1 : (some false) = some r := by rw [if_neg (show ¬ (false = true) by decide)] at H; exact H
         clear H
         have H := H1
         clear H1
         obtain rfl := Option.some.inj H
         have p102 : 0 ≤ (x3_2 : Int) := of_decide_eq_true (by first | (with_reducible assumption) | assumption)
         have q102 : x3_2 < (l0.length : Int) := of_decide_eq_true (by first | (with_reducible assumption) | assumption)
         obtain ⟨ad102, e102, hx102_0⟩ := Kd.at_int HR0.out x3_2 p102 q102
         cases e102
         replace p102 := eq_true p102
         replace q102 := eq_true q102
         go_wp2_with (first | (go_at_call 65; (with_reducible refine (spec_l00In.calls (rd l0 x3_2) (-1) 15 false _ A7.out).mono ?_); rintro e w' ⟨rfl, ⟨nd, rfl⟩⟩; (try first | exact ⟨rfl, _, World.drewN_drewN _ _ _⟩ | exact ⟨rfl, _, Eq.trans (World.drewN_drewN _ _ _) (congrArg (World.drewN _) (Nat.add_assoc _ _ _))⟩)))
         repeat (go_quiet (first | (go_at_call 65; (with_reducible refine (spec_l00In.calls (rd l0 x3_2) (-1) 15 false _ A7.out).mono ?_); rintro e w' ⟨rfl, ⟨nd, rfl⟩⟩; (try first | exact ⟨rfl, _, World.drewN_drewN _ _ _⟩ | exact ⟨rfl, _, Eq.trans (World.drewN_drewN _ _ _) (congrArg (World.drewN _) (Nat.add_assoc _ _ _))⟩))); try go_wp2_with (first | (go_at_call 65; (with_reducible refine (spec_l00In.calls (rd l0 x3_2) (-1) 15 false _ A7.out).mono ?_); rintro e w' ⟨rfl, ⟨nd, rfl⟩⟩; (try first | exact ⟨rfl, _, World.drewN_drewN _ _ _⟩ | exact ⟨rfl, _, Eq.trans (World.drewN_drewN _ _ _) (congrArg (World.drewN _) (Nat.add_assoc _ _ _))⟩))))
         go_ret
         exact ⟨by first | rfl | (simp; done) | (simp [*]; done), by repeat (first | exact Drawn0.refl _ | apply Drawn0.step)⟩
       ·rw [if_neg c6] at H
        exact absurd H (by simp)
      ·rw [if_neg c5] at H
       have c5b0 : decide (x3_2 < (l0.length : Int)) = false := decide_eq_false c5
       clear c5
       obtain rfl := Option.some.inj H
       go_wp2
       repeat (go_quiet (fail); try go_wp2)
       go_ret
       exact ⟨by first | rfl | (simp; done) | (simp [*]; done), by repeat (first | exact Drawn0.refl _ | apply Drawn0.step)⟩

/-! ### spec_l13Ok: function 56 -/
def spec_l13Ok.l0 : Nat → List (S43) → Int → Int → Option (Bool)
 | 0, _, _, _ => none
 | k + 1, x0, x3, x4 => if x4 < (x0.length : Int) then (if 0 ≤ x4 then (if ((rd_T43 x0 x4).f0) = x3 then ((spec_l00In.f ((rd_T43 x0 x4).f1) ((rd_T43 x0 x4).f0) 60).bind fun t110 => (if t110 = true then ((spec_l12Ok.f k ((rd_T43 x0 x4).f2)).bind fun t111 => (if t111 = true then (if 0 < (x0.length : Int) then (if (((rd_T43 x0 x4).f2).length : Int) = (((rd_T43 x0 0).f2).length : Int) then (spec_l13Ok.l0 k x0 (wrap64 (((rd_T43 x0 x4).f1) + 1)) (wrap64 (x4 + 1))) else (some false)) else (none)) else (some false))) else (some false))) else (some false)) else (none)) else (some true)
def spec_l13Ok.f (k : Nat) (l0 : List (S43)) : Option (Bool) := if (l0.length : Int) > 60 then (some false) else (spec_l13Ok.l0 k l0 1 0)
theorem spec_l13Ok.mono_l : ∀ k, (∀ y0 y1 y2, LeO (spec_l13Ok.l0 k y0 y1 y2) (spec_l13Ok.l0 (k + 1) y0 y1 y2))
 | 0 => fun _ _ _ r h => by simp [spec_l13Ok.l0] at h
 | k + 1 => by
  have ih0 := spec_l13Ok.mono_l k
  ·intro y0 y1 y2
   unfold spec_l13Ok.l0
   repeat' first
   | (with_reducible exact ih0 _ _ _)
   | (with_reducible exact spec_l12Ok.mono _ _)
   | (with_reducible exact LeO.refl _)
   | (with_reducible exact LeO.none _)
   | (with_reducible refine LeO.ite ?_ ?_)
   | (with_reducible refine LeO.bind ?_ (fun _ => ?_))
   | exact ih0 _ _ _
   | exact spec_l12Ok.mono _ _
   | exact LeO.none _
   | refine LeO.ite ?_ ?_
   | refine LeO.bind ?_ (fun _ => ?_)
theorem spec_l13Ok.mono : ∀ a0 k, LeO (spec_l13Ok.f k a0) (spec_l13Ok.f (k + 1) a0) := by
 intro a0 k
 have ih0 := spec_l13Ok.mono_l k
 unfold spec_l13Ok.f
 repeat' first
   | (with_reducible exact ih0 _ _ _)
   | (with_reducible exact spec_l12Ok.mono _ _)
   | (with_reducible exact LeO.refl _)
   | (with_reducible exact LeO.none _)
   | (with_reducible refine LeO.ite ?_ ?_)
   | (with_reducible refine LeO.bind ?_ (fun _ => ?_))
   | exact ih0 _ _ _
   | exact spec_l12Ok.mono _ _
   | exact LeO.none _
   | refine LeO.ite ?_ ?_
   | refine LeO.bind ?_ (fun _ => ?_)
set_option maxHeartbeats 8000000 in
set_option maxRecDepth 100000 in
theorem spec_l13Ok.calls (k : Nat) (A0 : Option Addr) (c0 : Nat) (l0 : List (S43)) (r : Bool) (w : World) (hr0 : Kd.C k43 w A0 l0.length l0) (hc0 : l0.length ≤ c0) (h : spec_l13Ok.f k l0 = some r) :
  Calls Try.prog 56 #[.slice A0 l0.length c0] w fun e w' => e = .returned (.bool r) ∧ Below w.heap.size w w' := by
 have hu43 := Try.underlying43
 have HR0 := am hr0
 have HC0 := am hc0
 clear hr0 hc0
 have HB := am (Below.refl w.heap.size w)
 have H : (if (l0.length : Int) > 60 then (some false) else (spec_l13Ok.l0 k l0 1 0)) = some r := h
 clear h
 by_cases c2 : (l0.length : Int) > 60
 ·rw [if_pos c2] at H
  have c2b0 : decide (60 < (l0.length : Int)) = true := decide_eq_true c2
  have c2b1 : decide (60 < l0.length) = true := decide_eq_true (by omega)
  clear c2
  obtain rfl := Option.some.inj H
  go_enter Try.func56, Try.ntmps56
  go_wp2
  repeat (go_quiet (fail); try go_wp2)
  go_ret
  exact ⟨by first | rfl | (simp [errW_none, errW_some] <;> rfl) | (simp [*, errW_none, errW_some] <;> rfl), by repeat (first | (with_reducible first | exact HB.out | apply bal | apply pdn | apply bd1) | exact HB.out)⟩
 ·rw [if_neg c2] at H
  have c2b0 : decide (60 < (l0.length : Int)) = false := decide_eq_false c2
  have c2b1 : decide (60 < l0.length) = false := decide_eq_false (by omega)
  clear c2
  have H' := am H
  clear H
  go_enter Try.func56, Try.ntmps56
  go_wp2
  repeat (go_quiet (fail); try go_wp2)
  go_loopg [3, 4] k (fun kq v3 v4 w' => ∃ (x3_1 : Int) (x4_1 : Int), v3 = .int .i64 x3_1 ∧ v4 = .int .i64 x4_1 ∧ Aside0 (spec_l13Ok.l0 kq l0 x3_1 x4_1 = some r) ∧ Aside0 (kq ≤ k) ∧ Aside0 (Below w.heap.size w w'))
  case atStart => exact ⟨(1), (0), (by first | rfl | (simp; done) | (simp [*]; done)), (by first | rfl | (simp; done) | (simp [*]; done)), H', ⟨Nat.le_refl _⟩, ⟨by repeat (first | (with_reducible first | exact HB.out | apply bal | apply pdn | apply bd1) | exact HB.out)⟩⟩
  case round =>
   clear H'
   obtain ⟨x3_1, x4_1, rfl, rfl, HA, HK1, HB⟩ := hrel
   cases gk with
   | zero => exact absurd HA.out (by simp [spec_l13Ok.l0])
   | succ k1 =>
    have H := HA.out
    clear HA
    simp only [spec_l13Ok.l0] at H
    by_cases c3 : x4_1 < (l0.length : Int)
    ·rw [if_pos c3] at H
     have c3b0 : decide (x4_1 < (l0.length : Int)) = true := decide_eq_true c3
     clear c3
     by_cases c4 : 0 ≤ x4_1
     ·rw [if_pos c4] at H
      have c4b0 : decide (0 ≤ x4_1) = true := decide_eq_true c4
      clear c4
      by_cases c5 : ((rd_T43 l0 x4_1).f0) = x3_1
      ·rw [if_pos c5] at H
       have c5b0 : (((rd_T43 l0 x4_1).f0) == x3_1) = true := beq_iff_eq.mpr c5
       have c5b1 : (((rd_T43 l0 x4_1).f0) != x3_1) = false := bne_eq_false_iff_eq.mpr c5
       clear c5
       replace H := Option.bind_eq_some_iff.mp H
       obtain ⟨t110, A60, H⟩ := H
       replace H : (if t110 = true then ((spec_l12Ok.f k1 ((rd_T43 l0 x4_1).f2)).bind fun t111 => (if t111 = true then (if 0 < (l0.length : Int) then (if (((rd_T43 l0 x4_1).f2).length : Int) = (((rd_T43 l0 0).f2).length : Int) then (spec_l13Ok.l0 k1 l0 (wrap64 (((rd_T43 l0 x4_1).f1) + 1)) (wrap64 (x4_1 + 1))) else (some false)) else (none)) else (some false))) else (some false)) = some r := H
       have A6 := am A60
       clear A60
       by_cases c7 : t110 = true
       ·subst c7
        have H1 : ((spec_l12Ok.f k1 ((rd_T43 l0 x4_1).f2)).bind fun t111 => (if t111 = true then (if 0 < (l0.length : Int) then (if (((rd_T43 l0 x4_1).f2).length : Int) = (((rd_T43 l0 0).f2).length : Int) then (spec_l13Ok.l0 k1 l0 (wrap64 (((rd_T43 l0 x4_1).f1) + 1)) (wrap64 (x4_1 + 1))) else (some false)) else (none)) else (some false))) = some r := by rw [if_pos rfl] at H; exact H
        clear H
        have H := H1
        clear H1
        replace H := Option.bind_eq_some_iff.mp H
        obtain ⟨t111, A80, H⟩ := H
        replace H : (if t111 = true then (if 0 < (l0.length : Int) then (if (((rd_T43 l0 x4_1).f2).length : Int) = (((rd_T43 l0 0).f2).length : Int) then (spec_l13Ok.l0 k1 l0 (wrap64 (((rd_T43 l0 x4_1).f1) + 1)) (wrap64 (x4_1 + 1))) else (some false)) else (none)) else (some false)) = some r := H
        have A8 := am A80
        clear A80
        by_cases c9 : t111 = true
        ·subst c9
         have H1 : (if 0 < (l0.length : Int) then (if (((rd_T43 l0 x4_1).f2).length : Int) = (((rd_T43 l0 0).f2).length : Int) then (spec_l13Ok.l0 k1 l0 (wrap64 (((rd_T43 l0 x4_1).f1) + 1)) (wrap64 (x4_1 + 1))) else (some false)) else (none)) = some r := by rw [if_pos rfl] at H; exact H
         clear H
         have H := H1
         clear H1
         by_cases c10 : 0 < (l0.length : Int)
         ·rw [if_pos c10] at H
          have c10b0 : decide (0 < (l0.length : Int)) = true := decide_eq_true c10
          have c10b1 : decide (0 < l0.length) = true := decide_eq_true (by omega)
          clear c10
          by_cases c11 : (((rd_T43 l0 x4_1).f2).length : Int) = (((rd_T43 l0 0).f2).length : Int)
          ·rw [if_pos c11] at H
           have c11b0 : ((((rd_T43 l0 x4_1).f2).length : Int) == (((rd_T43 l0 0).f2).length : Int)) = true := beq_iff_eq.mpr c11
           have c11b1 : ((((rd_T43 l0 x4_1).f2).length : Int) != (((rd_T43 l0 0).f2).length : Int)) = false := bne_eq_false_iff_eq.mpr c11
           have c11b2 : (((rd_T43 l0 x4_1).f2).length == ((rd_T43 l0 0).f2).length) = true := by first | simpa using c11 | (simp at c11 ⊢; omega)
           clear c11
           have H' := am H
           clear H
           have p108 : 0 ≤ (x4_1 : Int) := of_decide_eq_true (by first | (with_reducible assumption) | assumption)
           have q108 : x4_1 < (l0.length : Int) := of_decide_eq_true (by first | (with_reducible assumption) | assumption)
           obtain ⟨ad108, A108_2, c108_2, e108, hx108_0, hx108_1, hx108_2, hx108_3, hl108_2, hi108_2⟩ := at_T43 HR0.out x4_1 p108 q108
           cases e108
           replace hx108_0 := (HB.out.cell (blc w _ hx108_0)).trans hx108_0
           replace hx108_1 := (HB.out.cell (blc w _ hx108_1)).trans hx108_1
           replace hx108_2 := (HB.out.cell (blc w _ hx108_2)).trans hx108_2
           replace hx108_3 := (HB.out.cell (blc w _ hx108_3)).trans hx108_3
           have HR108_2 := am hi108_2
           have HC108_2 := am hl108_2
           clear hi108_2 hl108_2
           replace p108 := eq_true p108
           replace q108 := eq_true q108
           try (have p112 : 0 ≤ (0 : Int) := (by omega); have q112 : 0 < (l0.length : Int) := of_decide_eq_true (by first | (with_reducible assumption) | assumption); obtain ⟨ad112, A112_2, c112_2, e112, hx112_0, hx112_1, hx112_2, hx112_3, hl112_2, hi112_2⟩ := at_T43 HR0.out 0 p112 q112; obtain rfl : ad108 = ad112 := (by injection e112); have qi112 : (0 < l0.length) = True := eq_true (by omega); (try rw [show ((0 : Int)).toNat = 0 from rfl] at hx112_0); (try rw [show 0 * 4 = 0 from rfl] at hx112_0); (try rw [Addr.add_zero'] at hx112_0); (try rw [show ((0 : Int)).toNat = 0 from rfl] at hx112_1); (try rw [show 0 * 4 = 0 from rfl] at hx112_1); (try rw [Addr.add_zero'] at hx112_1); (try rw [show ((0 : Int)).toNat = 0 from rfl] at hx112_2); (try rw [show 0 * 4 = 0 from rfl] at hx112_2); (try rw [Addr.add_zero'] at hx112_2); (try rw [show ((0 : Int)).toNat = 0 from rfl] at hx112_3); (try rw [show 0 * 4 = 0 from rfl] at hx112_3); (try rw [Addr.add_zero'] at hx112_3); have hn112_0 : ad108.block ≠ gb109 := Nat.ne_of_lt (Nat.lt_of_lt_of_le (by have := blc _ _ hx112_0; first | rwa [add_block] at this | exact this) GW109.out); have hn112_1 : ad108.block ≠ gb109 := Nat.ne_of_lt (Nat.lt_of_lt_of_le (by have := blc _ _ hx112_0; first | rwa [add_block] at this | exact this) GW109.out); have hn112_2 : ad108.block ≠ gb109 := Nat.ne_of_lt (Nat.lt_of_lt_of_le (by have := blc _ _ hx112_0; first | rwa [add_block] at this | exact this) GW109.out); have hn112_3 : ad108.block ≠ gb109 := Nat.ne_of_lt (Nat.lt_of_lt_of_le (by have := blc _ _ hx112_0; first | rwa [add_block] at this | exact this) GW109.out); replace hx112_0 := (HB.out.cell (blc w _ hx112_0)).trans hx112_0; replace hx112_1 := (HB.out.cell (blc w _ hx112_1)).trans hx112_1; replace hx112_2 := (HB.out.cell (blc w _ hx112_2)).trans hx112_2; replace hx112_3 := (HB.out.cell (blc w _ hx112_3)).trans hx112_3; have HR112_2 := am hi112_2; have HC112_2 := am hl112_2; clear hi112_2 hl112_2; replace hx112_0 := (cell_far (p := ⟨gb109, 0, none⟩) (by first | (rw [add_block]; exact hn112_0) | (show (Addr.add _ _).block ≠ _; rw [add_block]; exact hn112_0) | exact hn112_0) (.int .i64 ((rd_T43 l0 x4_1).f0))).trans hx112_0; replace hx112_1 := (cell_far (p := ⟨gb109, 0, none⟩) (by first | (rw [add_block]; exact hn112_0) | (show (Addr.add _ _).block ≠ _; rw [add_block]; exact hn112_0) | exact hn112_0) (.int .i64 ((rd_T43 l0 x4_1).f0))).trans hx112_1; replace hx112_2 := (cell_far (p := ⟨gb109, 0, none⟩) (by first | (rw [add_block]; exact hn112_0) | (show (Addr.add _ _).block ≠ _; rw [add_block]; exact hn112_0) | exact hn112_0) (.int .i64 ((rd_T43 l0 x4_1).f0))).trans hx112_2; replace hx112_3 := (cell_far (p := ⟨gb109, 0, none⟩) (by first | (rw [add_block]; exact hn112_0) | (show (Addr.add _ _).block ≠ _; rw [add_block]; exact hn112_0) | exact hn112_0) (.int .i64 ((rd_T43 l0 x4_1).f0))).trans hx112_3; replace hx112_0 := (cell_far (p := ⟨gb109, 1, none⟩) (by first | (rw [add_block]; exact hn112_1) | (show (Addr.add _ _).block ≠ _; rw [add_block]; exact hn112_1) | exact hn112_1) (.int .i64 ((rd_T43 l0 x4_1).f1))).trans hx112_0; replace hx112_1 := (cell_far (p := ⟨gb109, 1, none⟩) (by first | (rw [add_block]; exact hn112_1) | (show (Addr.add _ _).block ≠ _; rw [add_block]; exact hn112_1) | exact hn112_1) (.int .i64 ((rd_T43 l0 x4_1).f1))).trans hx112_1; replace hx112_2 := (cell_far (p := ⟨gb109, 1, none⟩) (by first | (rw [add_block]; exact hn112_1) | (show (Addr.add _ _).block ≠ _; rw [add_block]; exact hn112_1) | exact hn112_1) (.int .i64 ((rd_T43 l0 x4_1).f1))).trans hx112_2; replace hx112_3 := (cell_far (p := ⟨gb109, 1, none⟩) (by first | (rw [add_block]; exact hn112_1) | (show (Addr.add _ _).block ≠ _; rw [add_block]; exact hn112_1) | exact hn112_1) (.int .i64 ((rd_T43 l0 x4_1).f1))).trans hx112_3; replace hx112_0 := (cell_far (p := ⟨gb109, 2, none⟩) (by first | (rw [add_block]; exact hn112_2) | (show (Addr.add _ _).block ≠ _; rw [add_block]; exact hn112_2) | exact hn112_2) (.slice A108_2 ((rd_T43 l0 x4_1).f2).length c108_2)).trans hx112_0; replace hx112_1 := (cell_far (p := ⟨gb109, 2, none⟩) (by first | (rw [add_block]; exact hn112_2) | (show (Addr.add _ _).block ≠ _; rw [add_block]; exact hn112_2) | exact hn112_2) (.slice A108_2 ((rd_T43 l0 x4_1).f2).length c108_2)).trans hx112_1; replace hx112_2 := (cell_far (p := ⟨gb109, 2, none⟩) (by first | (rw [add_block]; exact hn112_2) | (show (Addr.add _ _).block ≠ _; rw [add_block]; exact hn112_2) | exact hn112_2) (.slice A108_2 ((rd_T43 l0 x4_1).f2).length c108_2)).trans hx112_2; replace hx112_3 := (cell_far (p := ⟨gb109, 2, none⟩) (by first | (rw [add_block]; exact hn112_2) | (show (Addr.add _ _).block ≠ _; rw [add_block]; exact hn112_2) | exact hn112_2) (.slice A108_2 ((rd_T43 l0 x4_1).f2).length c108_2)).trans hx112_3; replace hx112_0 := (cell_far (p := ⟨gb109, 3, none⟩) (by first | (rw [add_block]; exact hn112_3) | (show (Addr.add _ _).block ≠ _; rw [add_block]; exact hn112_3) | exact hn112_3) (.bool ((rd_T43 l0 x4_1).f3))).trans hx112_0; replace hx112_1 := (cell_far (p := ⟨gb109, 3, none⟩) (by first | (rw [add_block]; exact hn112_3) | (show (Addr.add _ _).block ≠ _; rw [add_block]; exact hn112_3) | exact hn112_3) (.bool ((rd_T43 l0 x4_1).f3))).trans hx112_1; replace hx112_2 := (cell_far (p := ⟨gb109, 3, none⟩) (by first | (rw [add_block]; exact hn112_3) | (show (Addr.add _ _).block ≠ _; rw [add_block]; exact hn112_3) | exact hn112_3) (.bool ((rd_T43 l0 x4_1).f3))).trans hx112_2; replace hx112_3 := (cell_far (p := ⟨gb109, 3, none⟩) (by first | (rw [add_block]; exact hn112_3) | (show (Addr.add _ _).block ≠ _; rw [add_block]; exact hn112_3) | exact hn112_3) (.bool ((rd_T43 l0 x4_1).f3))).trans hx112_3; (try have hy112_0 := fun (n_ : Nat) => (show ((((((w12.drewN n_).setCell ⟨gb109, 0, none⟩ (.int .i64 ((rd_T43 l0 x4_1).f0))).setCell ⟨gb109, 1, none⟩ (.int .i64 ((rd_T43 l0 x4_1).f1))).setCell ⟨gb109, 2, none⟩ (.slice A108_2 ((rd_T43 l0 x4_1).f2).length c108_2)).setCell ⟨gb109, 3, none⟩ (.bool ((rd_T43 l0 x4_1).f3)))).cell? _ = some _ from hx112_0)); (try have hy112_1 := fun (n_ : Nat) => (show ((((((w12.drewN n_).setCell ⟨gb109, 0, none⟩ (.int .i64 ((rd_T43 l0 x4_1).f0))).setCell ⟨gb109, 1, none⟩ (.int .i64 ((rd_T43 l0 x4_1).f1))).setCell ⟨gb109, 2, none⟩ (.slice A108_2 ((rd_T43 l0 x4_1).f2).length c108_2)).setCell ⟨gb109, 3, none⟩ (.bool ((rd_T43 l0 x4_1).f3)))).cell? _ = some _ from hx112_1)); (try have hy112_2 := fun (n_ : Nat) => (show ((((((w12.drewN n_).setCell ⟨gb109, 0, none⟩ (.int .i64 ((rd_T43 l0 x4_1).f0))).setCell ⟨gb109, 1, none⟩ (.int .i64 ((rd_T43 l0 x4_1).f1))).setCell ⟨gb109, 2, none⟩ (.slice A108_2 ((rd_T43 l0 x4_1).f2).length c108_2)).setCell ⟨gb109, 3, none⟩ (.bool ((rd_T43 l0 x4_1).f3)))).cell? _ = some _ from hx112_2)); (try have hy112_3 := fun (n_ : Nat) => (show ((((((w12.drewN n_).setCell ⟨gb109, 0, none⟩ (.int .i64 ((rd_T43 l0 x4_1).f0))).setCell ⟨gb109, 1, none⟩ (.int .i64 ((rd_T43 l0 x4_1).f1))).setCell ⟨gb109, 2, none⟩ (.slice A108_2 ((rd_T43 l0 x4_1).f2).length c108_2)).setCell ⟨gb109, 3, none⟩ (.bool ((rd_T43 l0 x4_1).f3)))).cell? _ = some _ from hx112_3)); clear hn112_0; clear hn112_1; clear hn112_2; clear hn112_3; replace p112 := eq_true p112; replace q112 := eq_true q112)
           go_wp2_with (first | ((with_reducible refine gate_dst (N := 5) rfl ?_); (try (refine gate_guard (by rfl) ?_; dsimp only)); refine box_event ?hg (N := 5) ?hd (cs := #[.int .i64 0, .int .i64 0, .slice none 0 0, .bool false]) (t := 43) ?hr ?_; (case hd => rfl); (case hg => rfl); (case hr => first | (go_simp; done) | (go_simp; rfl)); intro gb109 hg w12 hbox hb; have n0_ := am (below_step (by repeat (first | (with_reducible first | exact HB.out | apply bal | apply pdn | apply bd1) | exact HB.out)) hb); have n1_ := am (hbox); have n2_ := am ((by rw [hg]; exact (below_size (by repeat (first | (with_reducible first | exact HB.out | apply bal | apply pdn | apply bd1) | exact HB.out))) : w.heap.size ≤ gb109)); have n3_ := am ((by rw [hg]; exact (below_size (by repeat (first | (with_reducible first | exact HB.out | apply bal | apply pdn | apply bd1) | exact HB.out))) : w.heap.size ≤ gb109)); clear HB; have HB := n0_; have BK109 := n1_; have GW109 := n2_; have GE109 := n3_; clear n0_ n1_ n2_ n3_; clear hb hbox hg; have hcz13_0 : w12.cell? ⟨gb109, 0, none⟩ = some (.int .i64 0) := (kce BK109.out 0).trans rfl; have hcz13_1 : w12.cell? ⟨gb109, 1, none⟩ = some (.int .i64 0) := (kce BK109.out 1).trans rfl; have hcz13_2 : w12.cell? ⟨gb109, 2, none⟩ = some (.slice none 0 0) := (kce BK109.out 2).trans rfl; have hcz13_3 : w12.cell? ⟨gb109, 3, none⟩ = some (.bool false) := (kce BK109.out 3).trans rfl; have hfz13_0 := kfr BK109.out 0; have hfz13_1 := kfr BK109.out 1; have hfz13_2 := kfr BK109.out 2; have hfz13_3 := kfr BK109.out 3) | (go_at_call 65; (with_reducible refine (spec_l00In.calls ((rd_T43 l0 x4_1).f1) ((rd_T43 l0 x4_1).f0) 60 true _ A6.out).mono ?_); rintro e w' ⟨rfl, ⟨nd, rfl⟩⟩; (try first | exact ⟨rfl, _, World.drewN_drewN _ _ _⟩ | exact ⟨rfl, _, Eq.trans (World.drewN_drewN _ _ _) (congrArg (World.drewN _) (Nat.add_assoc _ _ _))⟩)) | (go_at_call 46; (with_reducible refine (spec_l12Ok.calls k1 _ _ ((rd_T43 l0 x4_1).f2) true _ ?side1 ?side2 A8.out).mono ?_); (case side1 => exact Kd.C_below HR108_2.out (by repeat (first | (with_reducible first | exact HB.out | apply bal | apply pdn | apply bd1 | refine bst ?_ GE109.out) | exact HB.out))); (case side2 => exact HC108_2.out); rintro e w' ⟨rfl, ⟨nd, rfl⟩⟩; (try first | exact ⟨rfl, _, World.drewN_drewN _ _ _⟩ | exact ⟨rfl, _, Eq.trans (World.drewN_drewN _ _ _) (congrArg (World.drewN _) (Nat.add_assoc _ _ _))⟩); have p112 : 0 ≤ (0 : Int) := (by omega); have q112 : 0 < (l0.length : Int) := of_decide_eq_true (by first | (with_reducible assumption) | assumption); obtain ⟨ad112, A112_2, c112_2, e112, hx112_0, hx112_1, hx112_2, hx112_3, hl112_2, hi112_2⟩ := at_T43 HR0.out 0 p112 q112; obtain rfl : ad108 = ad112 := (by injection e112); have qi112 : (0 < l0.length) = True := eq_true (by omega); (try rw [show ((0 : Int)).toNat = 0 from rfl] at hx112_0); (try rw [show 0 * 4 = 0 from rfl] at hx112_0); (try rw [Addr.add_zero'] at hx112_0); (try rw [show ((0 : Int)).toNat = 0 from rfl] at hx112_1); (try rw [show 0 * 4 = 0 from rfl] at hx112_1); (try rw [Addr.add_zero'] at hx112_1); (try rw [show ((0 : Int)).toNat = 0 from rfl] at hx112_2); (try rw [show 0 * 4 = 0 from rfl] at hx112_2); (try rw [Addr.add_zero'] at hx112_2); (try rw [show ((0 : Int)).toNat = 0 from rfl] at hx112_3); (try rw [show 0 * 4 = 0 from rfl] at hx112_3); (try rw [Addr.add_zero'] at hx112_3); have hn112_0 : ad108.block ≠ gb109 := Nat.ne_of_lt (Nat.lt_of_lt_of_le (by have := blc _ _ hx112_0; first | rwa [add_block] at this | exact this) GW109.out); have hn112_1 : ad108.block ≠ gb109 := Nat.ne_of_lt (Nat.lt_of_lt_of_le (by have := blc _ _ hx112_0; first | rwa [add_block] at this | exact this) GW109.out); have hn112_2 : ad108.block ≠ gb109 := Nat.ne_of_lt (Nat.lt_of_lt_of_le (by have := blc _ _ hx112_0; first | rwa [add_block] at this | exact this) GW109.out); have hn112_3 : ad108.block ≠ gb109 := Nat.ne_of_lt (Nat.lt_of_lt_of_le (by have := blc _ _ hx112_0; first | rwa [add_block] at this | exact this) GW109.out); replace hx112_0 := (HB.out.cell (blc w _ hx112_0)).trans hx112_0; replace hx112_1 := (HB.out.cell (blc w _ hx112_1)).trans hx112_1; replace hx112_2 := (HB.out.cell (blc w _ hx112_2)).trans hx112_2; replace hx112_3 := (HB.out.cell (blc w _ hx112_3)).trans hx112_3; have HR112_2 := am hi112_2; have HC112_2 := am hl112_2; clear hi112_2 hl112_2; replace hx112_0 := (cell_far (p := ⟨gb109, 0, none⟩) (by first | (rw [add_block]; exact hn112_0) | (show (Addr.add _ _).block ≠ _; rw [add_block]; exact hn112_0) | exact hn112_0) (.int .i64 ((rd_T43 l0 x4_1).f0))).trans hx112_0; replace hx112_1 := (cell_far (p := ⟨gb109, 0, none⟩) (by first | (rw [add_block]; exact hn112_0) | (show (Addr.add _ _).block ≠ _; rw [add_block]; exact hn112_0) | exact hn112_0) (.int .i64 ((rd_T43 l0 x4_1).f0))).trans hx112_1; replace hx112_2 := (cell_far (p := ⟨gb109, 0, none⟩) (by first | (rw [add_block]; exact hn112_0) | (show (Addr.add _ _).block ≠ _; rw [add_block]; exact hn112_0) | exact hn112_0) (.int .i64 ((rd_T43 l0 x4_1).f0))).trans hx112_2; replace hx112_3 := (cell_far (p := ⟨gb109, 0, none⟩) (by first | (rw [add_block]; exact hn112_0) | (show (Addr.add _ _).block ≠ _; rw [add_block]; exact hn112_0) | exact hn112_0) (.int .i64 ((rd_T43 l0 x4_1).f0))).trans hx112_3; replace hx112_0 := (cell_far (p := ⟨gb109, 1, none⟩) (by first | (rw [add_block]; exact hn112_1) | (show (Addr.add _ _).block ≠ _; rw [add_block]; exact hn112_1) | exact hn112_1) (.int .i64 ((rd_T43 l0 x4_1).f1))).trans hx112_0; replace hx112_1 := (cell_far (p := ⟨gb109, 1, none⟩) (by first | (rw [add_block]; exact hn112_1) | (show (Addr.add _ _).block ≠ _; rw [add_block]; exact hn112_1) | exact hn112_1) (.int .i64 ((rd_T43 l0 x4_1).f1))).trans hx112_1; replace hx112_2 := (cell_far (p := ⟨gb109, 1, none⟩) (by first | (rw [add_block]; exact hn112_1) | (show (Addr.add _ _).block ≠ _; rw [add_block]; exact hn112_1) | exact hn112_1) (.int .i64 ((rd_T43 l0 x4_1).f1))).trans hx112_2; replace hx112_3 := (cell_far (p := ⟨gb109, 1, none⟩) (by first | (rw [add_block]; exact hn112_1) | (show (Addr.add _ _).block ≠ _; rw [add_block]; exact hn112_1) | exact hn112_1) (.int .i64 ((rd_T43 l0 x4_1).f1))).trans hx112_3; replace hx112_0 := (cell_far (p := ⟨gb109, 2, none⟩) (by first | (rw [add_block]; exact hn112_2) | (show (Addr.add _ _).block ≠ _; rw [add_block]; exact hn112_2) | exact hn112_2) (.slice A108_2 ((rd_T43 l0 x4_1).f2).length c108_2)).trans hx112_0; replace hx112_1 := (cell_far (p := ⟨gb109, 2, none⟩) (by first | (rw [add_block]; exact hn112_2) | (show (Addr.add _ _).block ≠ _; rw [add_block]; exact hn112_2) | exact hn112_2) (.slice A108_2 ((rd_T43 l0 x4_1).f2).length c108_2)).trans hx112_1; replace hx112_2 := (cell_far (p := ⟨gb109, 2, none⟩) (by first | (rw [add_block]; exact hn112_2) | (show (Addr.add _ _).block ≠ _; rw [add_block]; exact hn112_2) | exact hn112_2) (.slice A108_2 ((rd_T43 l0 x4_1).f2).length c108_2)).trans hx112_2; replace hx112_3 := (cell_far (p := ⟨gb109, 2, none⟩) (by first | (rw [add_block]; exact hn112_2) | (show (Addr.add _ _).block ≠ _; rw [add_block]; exact hn112_2) | exact hn112_2) (.slice A108_2 ((rd_T43 l0 x4_1).f2).length c108_2)).trans hx112_3; replace hx112_0 := (cell_far (p := ⟨gb109, 3, none⟩) (by first | (rw [add_block]; exact hn112_3) | (show (Addr.add _ _).block ≠ _; rw [add_block]; exact hn112_3) | exact hn112_3) (.bool ((rd_T43 l0 x4_1).f3))).trans hx112_0; replace hx112_1 := (cell_far (p := ⟨gb109, 3, none⟩) (by first | (rw [add_block]; exact hn112_3) | (show (Addr.add _ _).block ≠ _; rw [add_block]; exact hn112_3) | exact hn112_3) (.bool ((rd_T43 l0 x4_1).f3))).trans hx112_1; replace hx112_2 := (cell_far (p := ⟨gb109, 3, none⟩) (by first | (rw [add_block]; exact hn112_3) | (show (Addr.add _ _).block ≠ _; rw [add_block]; exact hn112_3) | exact hn112_3) (.bool ((rd_T43 l0 x4_1).f3))).trans hx112_2; replace hx112_3 := (cell_far (p := ⟨gb109, 3, none⟩) (by first | (rw [add_block]; exact hn112_3) | (show (Addr.add _ _).block ≠ _; rw [add_block]; exact hn112_3) | exact hn112_3) (.bool ((rd_T43 l0 x4_1).f3))).trans hx112_3; (try have hy112_0 := fun (n_ : Nat) => (show ((((((w12.drewN n_).setCell ⟨gb109, 0, none⟩ (.int .i64 ((rd_T43 l0 x4_1).f0))).setCell ⟨gb109, 1, none⟩ (.int .i64 ((rd_T43 l0 x4_1).f1))).setCell ⟨gb109, 2, none⟩ (.slice A108_2 ((rd_T43 l0 x4_1).f2).length c108_2)).setCell ⟨gb109, 3, none⟩ (.bool ((rd_T43 l0 x4_1).f3)))).cell? _ = some _ from hx112_0)); (try have hy112_1 := fun (n_ : Nat) => (show ((((((w12.drewN n_).setCell ⟨gb109, 0, none⟩ (.int .i64 ((rd_T43 l0 x4_1).f0))).setCell ⟨gb109, 1, none⟩ (.int .i64 ((rd_T43 l0 x4_1).f1))).setCell ⟨gb109, 2, none⟩ (.slice A108_2 ((rd_T43 l0 x4_1).f2).length c108_2)).setCell ⟨gb109, 3, none⟩ (.bool ((rd_T43 l0 x4_1).f3)))).cell? _ = some _ from hx112_1)); (try have hy112_2 := fun (n_ : Nat) => (show ((((((w12.drewN n_).setCell ⟨gb109, 0, none⟩ (.int .i64 ((rd_T43 l0 x4_1).f0))).setCell ⟨gb109, 1, none⟩ (.int .i64 ((rd_T43 l0 x4_1).f1))).setCell ⟨gb109, 2, none⟩ (.slice A108_2 ((rd_T43 l0 x4_1).f2).length c108_2)).setCell ⟨gb109, 3, none⟩ (.bool ((rd_T43 l0 x4_1).f3)))).cell? _ = some _ from hx112_2)); (try have hy112_3 := fun (n_ : Nat) => (show ((((((w12.drewN n_).setCell ⟨gb109, 0, none⟩ (.int .i64 ((rd_T43 l0 x4_1).f0))).setCell ⟨gb109, 1, none⟩ (.int .i64 ((rd_T43 l0 x4_1).f1))).setCell ⟨gb109, 2, none⟩ (.slice A108_2 ((rd_T43 l0 x4_1).f2).length c108_2)).setCell ⟨gb109, 3, none⟩ (.bool ((rd_T43 l0 x4_1).f3)))).cell? _ = some _ from hx112_3)); clear hn112_0; clear hn112_1; clear hn112_2; clear hn112_3; replace p112 := eq_true p112; replace q112 := eq_true q112))
           first | (have hz_ := hy112_3; clear hz_) | (have p112 : 0 ≤ (0 : Int) := (by omega); have q112 : 0 < (l0.length : Int) := of_decide_eq_true (by first | (with_reducible assumption) | assumption); obtain ⟨ad112, A112_2, c112_2, e112, hx112_0, hx112_1, hx112_2, hx112_3, hl112_2, hi112_2⟩ := at_T43 HR0.out 0 p112 q112; obtain rfl : ad108 = ad112 := (by injection e112); have qi112 : (0 < l0.length) = True := eq_true (by omega); (try rw [show ((0 : Int)).toNat = 0 from rfl] at hx112_0); (try rw [show 0 * 4 = 0 from rfl] at hx112_0); (try rw [Addr.add_zero'] at hx112_0); (try rw [show ((0 : Int)).toNat = 0 from rfl] at hx112_1); (try rw [show 0 * 4 = 0 from rfl] at hx112_1); (try rw [Addr.add_zero'] at hx112_1); (try rw [show ((0 : Int)).toNat = 0 from rfl] at hx112_2); (try rw [show 0 * 4 = 0 from rfl] at hx112_2); (try rw [Addr.add_zero'] at hx112_2); (try rw [show ((0 : Int)).toNat = 0 from rfl] at hx112_3); (try rw [show 0 * 4 = 0 from rfl] at hx112_3); (try rw [Addr.add_zero'] at hx112_3); have hn112_0 : ad108.block ≠ gb109 := Nat.ne_of_lt (Nat.lt_of_lt_of_le (by have := blc _ _ hx112_0; first | rwa [add_block] at this | exact this) GW109.out); have hn112_1 : ad108.block ≠ gb109 := Nat.ne_of_lt (Nat.lt_of_lt_of_le (by have := blc _ _ hx112_0; first | rwa [add_block] at this | exact this) GW109.out); have hn112_2 : ad108.block ≠ gb109 := Nat.ne_of_lt (Nat.lt_of_lt_of_le (by have := blc _ _ hx112_0; first | rwa [add_block] at this | exact this) GW109.out); have hn112_3 : ad108.block ≠ gb109 := Nat.ne_of_lt (Nat.lt_of_lt_of_le (by have := blc _ _ hx112_0; first | rwa [add_block] at this | exact this) GW109.out); replace hx112_0 := (HB.out.cell (blc w _ hx112_0)).trans hx112_0; replace hx112_1 := (HB.out.cell (blc w _ hx112_1)).trans hx112_1; replace hx112_2 := (HB.out.cell (blc w _ hx112_2)).trans hx112_2; replace hx112_3 := (HB.out.cell (blc w _ hx112_3)).trans hx112_3; have HR112_2 := am hi112_2; have HC112_2 := am hl112_2; clear hi112_2 hl112_2; replace hx112_0 := (cell_far (p := ⟨gb109, 0, none⟩) (by first | (rw [add_block]; exact hn112_0) | (show (Addr.add _ _).block ≠ _; rw [add_block]; exact hn112_0) | exact hn112_0) (.int .i64 ((rd_T43 l0 x4_1).f0))).trans hx112_0; replace hx112_1 := (cell_far (p := ⟨gb109, 0, none⟩) (by first | (rw [add_block]; exact hn112_0) | (show (Addr.add _ _).block ≠ _; rw [add_block]; exact hn112_0) | exact hn112_0) (.int .i64 ((rd_T43 l0 x4_1).f0))).trans hx112_1; replace hx112_2 := (cell_far (p := ⟨gb109, 0, none⟩) (by first | (rw [add_block]; exact hn112_0) | (show (Addr.add _ _).block ≠ _; rw [add_block]; exact hn112_0) | exact hn112_0) (.int .i64 ((rd_T43 l0 x4_1).f0))).trans hx112_2; replace hx112_3 := (cell_far (p := ⟨gb109, 0, none⟩) (by first | (rw [add_block]; exact hn112_0) | (show (Addr.add _ _).block ≠ _; rw [add_block]; exact hn112_0) | exact hn112_0) (.int .i64 ((rd_T43 l0 x4_1).f0))).trans hx112_3; replace hx112_0 := (cell_far (p := ⟨gb109, 1, none⟩) (by first | (rw [add_block]; exact hn112_1) | (show (Addr.add _ _).block ≠ _; rw [add_block]; exact hn112_1) | exact hn112_1) (.int .i64 ((rd_T43 l0 x4_1).f1))).trans hx112_0; replace hx112_1 := (cell_far (p := ⟨gb109, 1, none⟩) (by first | (rw [add_block]; exact hn112_1) | (show (Addr.add _ _).block ≠ _; rw [add_block]; exact hn112_1) | exact hn112_1) (.int .i64 ((rd_T43 l0 x4_1).f1))).trans hx112_1; replace hx112_2 := (cell_far (p := ⟨gb109, 1, none⟩) (by first | (rw [add_block]; exact hn112_1) | (show (Addr.add _ _).block ≠ _; rw [add_block]; exact hn112_1) | exact hn112_1) (.int .i64 ((rd_T43 l0 x4_1).f1))).trans hx112_2; replace hx112_3 := (cell_far (p := ⟨gb109, 1, none⟩) (by first | (rw [add_block]; exact hn112_1) | (show (Addr.add _ _).block ≠ _; rw [add_block]; exact hn112_1) | exact hn112_1) (.int .i64 ((rd_T43 l0 x4_1).f1))).trans hx112_3; replace hx112_0 := (cell_far (p := ⟨gb109, 2, none⟩) (by first | (rw [add_block]; exact hn112_2) | (show (Addr.add _ _).block ≠ _; rw [add_block]; exact hn112_2) | exact hn112_2) (.slice A108_2 ((rd_T43 l0 x4_1).f2).length c108_2)).trans hx112_0; replace hx112_1 := (cell_far (p := ⟨gb109, 2, none⟩) (by first | (rw [add_block]; exact hn112_2) | (show (Addr.add _ _).block ≠ _; rw [add_block]; exact hn112_2) | exact hn112_2) (.slice A108_2 ((rd_T43 l0 x4_1).f2).length c108_2)).trans hx112_1; replace hx112_2 := (cell_far (p := ⟨gb109, 2, none⟩) (by first | (rw [add_block]; exact hn112_2) | (show (Addr.add _ _).block ≠ _; rw [add_block]; exact hn112_2) | exact hn112_2) (.slice A108_2 ((rd_T43 l0 x4_1).f2).length c108_2)).trans hx112_2; replace hx112_3 := (cell_far (p := ⟨gb109, 2, none⟩) (by first | (rw [add_block]; exact hn112_2) | (show (Addr.add _ _).block ≠ _; rw [add_block]; exact hn112_2) | exact hn112_2) (.slice A108_2 ((rd_T43 l0 x4_1).f2).length c108_2)).trans hx112_3; replace hx112_0 := (cell_far (p := ⟨gb109, 3, none⟩) (by first | (rw [add_block]; exact hn112_3) | (show (Addr.add _ _).block ≠ _; rw [add_block]; exact hn112_3) | exact hn112_3) (.bool ((rd_T43 l0 x4_1).f3))).trans hx112_0; replace hx112_1 := (cell_far (p := ⟨gb109, 3, none⟩) (by first | (rw [add_block]; exact hn112_3) | (show (Addr.add _ _).block ≠ _; rw [add_block]; exact hn112_3) | exact hn112_3) (.bool ((rd_T43 l0 x4_1).f3))).trans hx112_1; replace hx112_2 := (cell_far (p := ⟨gb109, 3, none⟩) (by first | (rw [add_block]; exact hn112_3) | (show (Addr.add _ _).block ≠ _; rw [add_block]; exact hn112_3) | exact hn112_3) (.bool ((rd_T43 l0 x4_1).f3))).trans hx112_2; replace hx112_3 := (cell_far (p := ⟨gb109, 3, none⟩) (by first | (rw [add_block]; exact hn112_3) | (show (Addr.add _ _).block ≠ _; rw [add_block]; exact hn112_3) | exact hn112_3) (.bool ((rd_T43 l0 x4_1).f3))).trans hx112_3; (try have hy112_0 := fun (n_ : Nat) => (show ((((((w12.drewN n_).setCell ⟨gb109, 0, none⟩ (.int .i64 ((rd_T43 l0 x4_1).f0))).setCell ⟨gb109, 1, none⟩ (.int .i64 ((rd_T43 l0 x4_1).f1))).setCell ⟨gb109, 2, none⟩ (.slice A108_2 ((rd_T43 l0 x4_1).f2).length c108_2)).setCell ⟨gb109, 3, none⟩ (.bool ((rd_T43 l0 x4_1).f3)))).cell? _ = some _ from hx112_0)); (try have hy112_1 := fun (n_ : Nat) => (show ((((((w12.drewN n_).setCell ⟨gb109, 0, none⟩ (.int .i64 ((rd_T43 l0 x4_1).f0))).setCell ⟨gb109, 1, none⟩ (.int .i64 ((rd_T43 l0 x4_1).f1))).setCell ⟨gb109, 2, none⟩ (.slice A108_2 ((rd_T43 l0 x4_1).f2).length c108_2)).setCell ⟨gb109, 3, none⟩ (.bool ((rd_T43 l0 x4_1).f3)))).cell? _ = some _ from hx112_1)); (try have hy112_2 := fun (n_ : Nat) => (show ((((((w12.drewN n_).setCell ⟨gb109, 0, none⟩ (.int .i64 ((rd_T43 l0 x4_1).f0))).setCell ⟨gb109, 1, none⟩ (.int .i64 ((rd_T43 l0 x4_1).f1))).setCell ⟨gb109, 2, none⟩ (.slice A108_2 ((rd_T43 l0 x4_1).f2).length c108_2)).setCell ⟨gb109, 3, none⟩ (.bool ((rd_T43 l0 x4_1).f3)))).cell? _ = some _ from hx112_2)); (try have hy112_3 := fun (n_ : Nat) => (show ((((((w12.drewN n_).setCell ⟨gb109, 0, none⟩ (.int .i64 ((rd_T43 l0 x4_1).f0))).setCell ⟨gb109, 1, none⟩ (.int .i64 ((rd_T43 l0 x4_1).f1))).setCell ⟨gb109, 2, none⟩ (.slice A108_2 ((rd_T43 l0 x4_1).f2).length c108_2)).setCell ⟨gb109, 3, none⟩ (.bool ((rd_T43 l0 x4_1).f3)))).cell? _ = some _ from hx112_3)); clear hn112_0; clear hn112_1; clear hn112_2; clear hn112_3; replace p112 := eq_true p112; replace q112 := eq_true q112) | skip
           repeat (go_quiet (first | ((with_reducible refine gate_dst (N := 5) rfl ?_); (try (refine gate_guard (by rfl) ?_; dsimp only)); refine box_event ?hg (N := 5) ?hd (cs := #[.int .i64 0, .int .i64 0, .slice none 0 0, .bool false]) (t := 43) ?hr ?_; (case hd => rfl); (case hg => rfl); (case hr => first | (go_simp; done) | (go_simp; rfl)); intro gb109 hg w12 hbox hb; have n0_ := am (below_step (by repeat (first | (with_reducible first | exact HB.out | apply bal | apply pdn | apply bd1) | exact HB.out)) hb); have n1_ := am (hbox); have n2_ := am ((by rw [hg]; exact (below_size (by repeat (first | (with_reducible first | exact HB.out | apply bal | apply pdn | apply bd1) | exact HB.out))) : w.heap.size ≤ gb109)); have n3_ := am ((by rw [hg]; exact (below_size (by repeat (first | (with_reducible first | exact HB.out | apply bal | apply pdn | apply bd1) | exact HB.out))) : w.heap.size ≤ gb109)); clear HB; have HB := n0_; have BK109 := n1_; have GW109 := n2_; have GE109 := n3_; clear n0_ n1_ n2_ n3_; clear hb hbox hg; have hcz13_0 : w12.cell? ⟨gb109, 0, none⟩ = some (.int .i64 0) := (kce BK109.out 0).trans rfl; have hcz13_1 : w12.cell? ⟨gb109, 1, none⟩ = some (.int .i64 0) := (kce BK109.out 1).trans rfl; have hcz13_2 : w12.cell? ⟨gb109, 2, none⟩ = some (.slice none 0 0) := (kce BK109.out 2).trans rfl; have hcz13_3 : w12.cell? ⟨gb109, 3, none⟩ = some (.bool false) := (kce BK109.out 3).trans rfl; have hfz13_0 := kfr BK109.out 0; have hfz13_1 := kfr BK109.out 1; have hfz13_2 := kfr BK109.out 2; have hfz13_3 := kfr BK109.out 3) | (go_at_call 65; (with_reducible refine (spec_l00In.calls ((rd_T43 l0 x4_1).f1) ((rd_T43 l0 x4_1).f0) 60 true _ A6.out).mono ?_); rintro e w' ⟨rfl, ⟨nd, rfl⟩⟩; (try first | exact ⟨rfl, _, World.drewN_drewN _ _ _⟩ | exact ⟨rfl, _, Eq.trans (World.drewN_drewN _ _ _) (congrArg (World.drewN _) (Nat.add_assoc _ _ _))⟩)) | (go_at_call 46; (with_reducible refine (spec_l12Ok.calls k1 _ _ ((rd_T43 l0 x4_1).f2) true _ ?side1 ?side2 A8.out).mono ?_); (case side1 => exact Kd.C_below HR108_2.out (by repeat (first | (with_reducible first | exact HB.out | apply bal | apply pdn | apply bd1 | refine bst ?_ GE109.out) | exact HB.out))); (case side2 => exact HC108_2.out); rintro e w' ⟨rfl, ⟨nd, rfl⟩⟩; (try first | exact ⟨rfl, _, World.drewN_drewN _ _ _⟩ | exact ⟨rfl, _, Eq.trans (World.drewN_drewN _ _ _) (congrArg (World.drewN _) (Nat.add_assoc _ _ _))⟩))); try go_wp2_with (first | ((with_reducible refine gate_dst (N := 5) rfl ?_); (try (refine gate_guard (by rfl) ?_; dsimp only)); refine box_event ?hg (N := 5) ?hd (cs := #[.int .i64 0, .int .i64 0, .slice none 0 0, .bool false]) (t := 43) ?hr ?_; (case hd => rfl); (case hg => rfl); (case hr => first | (go_simp; done) | (go_simp; rfl)); intro gb109 hg w12 hbox hb; have n0_ := am (below_step (by repeat (first | (with_reducible first | exact HB.out | apply bal | apply pdn | apply bd1) | exact HB.out)) hb); have n1_ := am (hbox); have n2_ := am ((by rw [hg]; exact (below_size (by repeat (first | (with_reducible first | exact HB.out | apply bal | apply pdn | apply bd1) | exact HB.out))) : w.heap.size ≤ gb109)); have n3_ := am ((by rw [hg]; exact (below_size (by repeat (first | (with_reducible first | exact HB.out | apply bal | apply pdn | apply bd1) | exact HB.out))) : w.heap.size ≤ gb109)); clear HB; have HB := n0_; have BK109 := n1_; have GW109 := n2_; have GE109 := n3_; clear n0_ n1_ n2_ n3_; clear hb hbox hg; have hcz13_0 : w12.cell? ⟨gb109, 0, none⟩ = some (.int .i64 0) := (kce BK109.out 0).trans rfl; have hcz13_1 : w12.cell? ⟨gb109, 1, none⟩ = some (.int .i64 0) := (kce BK109.out 1).trans rfl; have hcz13_2 : w12.cell? ⟨gb109, 2, none⟩ = some (.slice none 0 0) := (kce BK109.out 2).trans rfl; have hcz13_3 : w12.cell? ⟨gb109, 3, none⟩ = some (.bool false) := (kce BK109.out 3).trans rfl; have hfz13_0 := kfr BK109.out 0; have hfz13_1 := kfr BK109.out 1; have hfz13_2 := kfr BK109.out 2; have hfz13_3 := kfr BK109.out 3) | (go_at_call 65; (with_reducible refine (spec_l00In.calls ((rd_T43 l0 x4_1).f1) ((rd_T43 l0 x4_1).f0) 60 true _ A6.out).mono ?_); rintro e w' ⟨rfl, ⟨nd, rfl⟩⟩; (try first | exact ⟨rfl, _, World.drewN_drewN _ _ _⟩ | exact ⟨rfl, _, Eq.trans (World.drewN_drewN _ _ _) (congrArg (World.drewN _) (Nat.add_assoc _ _ _))⟩)) | (go_at_call 46; (with_reducible refine (spec_l12Ok.calls k1 _ _ ((rd_T43 l0 x4_1).f2) true _ ?side1 ?side2 A8.out).mono ?_); (case side1 => exact Kd.C_below HR108_2.out (by repeat (first | (with_reducible first | exact HB.out | apply bal | apply pdn | apply bd1 | refine bst ?_ GE109.out) | exact HB.out))); (case side2 => exact HC108_2.out); rintro e w' ⟨rfl, ⟨nd, rfl⟩⟩; (try first | exact ⟨rfl, _, World.drewN_drewN _ _ _⟩ | exact ⟨rfl, _, Eq.trans (World.drewN_drewN _ _ _) (congrArg (World.drewN _) (Nat.add_assoc _ _ _))⟩); have p112 : 0 ≤ (0 : Int) := (by omega); have q112 : 0 < (l0.length : Int) := of_decide_eq_true (by first | (with_reducible assumption) | assumption); obtain ⟨ad112, A112_2, c112_2, e112, hx112_0, hx112_1, hx112_2, hx112_3, hl112_2, hi112_2⟩ := at_T43 HR0.out 0 p112 q112; obtain rfl : ad108 = ad112 := (by injection e112); have qi112 : (0 < l0.length) = True := eq_true (by omega); (try rw [show ((0 : Int)).toNat = 0 from rfl] at hx112_0); (try rw [show 0 * 4 = 0 from rfl] at hx112_0); (try rw [Addr.add_zero'] at hx112_0); (try rw [show ((0 : Int)).toNat = 0 from rfl] at hx112_1); (try rw [show 0 * 4 = 0 from rfl] at hx112_1); (try rw [Addr.add_zero'] at hx112_1); (try rw [show ((0 : Int)).toNat = 0 from rfl] at hx112_2); (try rw [show 0 * 4 = 0 from rfl] at hx112_2); (try rw [Addr.add_zero'] at hx112_2); (try rw [show ((0 : Int)).toNat = 0 from rfl] at hx112_3); (try rw [show 0 * 4 = 0 from rfl] at hx112_3); (try rw [Addr.add_zero'] at hx112_3); have hn112_0 : ad108.block ≠ gb109 := Nat.ne_of_lt (Nat.lt_of_lt_of_le (by have := blc _ _ hx112_0; first | rwa [add_block] at this | exact this) GW109.out); have hn112_1 : ad108.block ≠ gb109 := Nat.ne_of_lt (Nat.lt_of_lt_of_le (by have := blc _ _ hx112_0; first | rwa [add_block] at this | exact this) GW109.out); have hn112_2 : ad108.block ≠ gb109 := Nat.ne_of_lt (Nat.lt_of_lt_of_le (by have := blc _ _ hx112_0; first | rwa [add_block] at this | exact this) GW109.out); have hn112_3 : ad108.block ≠ gb109 := Nat.ne_of_lt (Nat.lt_of_lt_of_le (by have := blc _ _ hx112_0; first | rwa [add_block] at this | exact this) GW109.out); replace hx112_0 := (HB.out.cell (blc w _ hx112_0)).trans hx112_0; replace hx112_1 := (HB.out.cell (blc w _ hx112_1)).trans hx112_1; replace hx112_2 := (HB.out.cell (blc w _ hx112_2)).trans hx112_2; replace hx112_3 := (HB.out.cell (blc w _ hx112_3)).trans hx112_3; have HR112_2 := am hi112_2; have HC112_2 := am hl112_2; clear hi112_2 hl112_2; replace hx112_0 := (cell_far (p := ⟨gb109, 0, none⟩) (by first | (rw [add_block]; exact hn112_0) | (show (Addr.add _ _).block ≠ _; rw [add_block]; exact hn112_0) | exact hn112_0) (.int .i64 ((rd_T43 l0 x4_1).f0))).trans hx112_0; replace hx112_1 := (cell_far (p := ⟨gb109, 0, none⟩) (by first | (rw [add_block]; exact hn112_0) | (show (Addr.add _ _).block ≠ _; rw [add_block]; exact hn112_0) | exact hn112_0) (.int .i64 ((rd_T43 l0 x4_1).f0))).trans hx112_1; replace hx112_2 := (cell_far (p := ⟨gb109, 0, none⟩) (by first | (rw [add_block]; exact hn112_0) | (show (Addr.add _ _).block ≠ _; rw [add_block]; exact hn112_0) | exact hn112_0) (.int .i64 ((rd_T43 l0 x4_1).f0))).trans hx112_2; replace hx112_3 := (cell_far (p := ⟨gb109, 0, none⟩) (by first | (rw [add_block]; exact hn112_0) | (show (Addr.add _ _).block ≠ _; rw [add_block]; exact hn112_0) | exact hn112_0) (.int .i64 ((rd_T43 l0 x4_1).f0))).trans hx112_3; replace hx112_0 := (cell_far (p := ⟨gb109, 1, none⟩) (by first | (rw [add_block]; exact hn112_1) | (show (Addr.add _ _).block ≠ _; rw [add_block]; exact hn112_1) | exact hn112_1) (.int .i64 ((rd_T43 l0 x4_1).f1))).trans hx112_0; replace hx112_1 := (cell_far (p := ⟨gb109, 1, none⟩) (by first | (rw [add_block]; exact hn112_1) | (show (Addr.add _ _).block ≠ _; rw [add_block]; exact hn112_1) | exact hn112_1) (.int .i64 ((rd_T43 l0 x4_1).f1))).trans hx112_1; replace hx112_2 := (cell_far (p := ⟨gb109, 1, none⟩) (by first | (rw [add_block]; exact hn112_1) | (show (Addr.add _ _).block ≠ _; rw [add_block]; exact hn112_1) | exact hn112_1) (.int .i64 ((rd_T43 l0 x4_1).f1))).trans hx112_2; replace hx112_3 := (cell_far (p := ⟨gb109, 1, none⟩) (by first | (rw [add_block]; exact hn112_1) | (show (Addr.add _ _).block ≠ _; rw [add_block]; exact hn112_1) | exact hn112_1) (.int .i64 ((rd_T43 l0 x4_1).f1))).trans hx112_3; replace hx112_0 := (cell_far (p := ⟨gb109, 2, none⟩) (by first | (rw [add_block]; exact hn112_2) | (show (Addr.add _ _).block ≠ _; rw [add_block]; exact hn112_2) | exact hn112_2) (.slice A108_2 ((rd_T43 l0 x4_1).f2).length c108_2)).trans hx112_0; replace hx112_1 := (cell_far (p := ⟨gb109, 2, none⟩) (by first | (rw [add_block]; exact hn112_2) | (show (Addr.add _ _).block ≠ _; rw [add_block]; exact hn112_2) | exact hn112_2) (.slice A108_2 ((rd_T43 l0 x4_1).f2).length c108_2)).trans hx112_1; replace hx112_2 := (cell_far (p := ⟨gb109, 2, none⟩) (by first | (rw [add_block]; exact hn112_2) | (show (Addr.add _ _).block ≠ _; rw [add_block]; exact hn112_2) | exact hn112_2) (.slice A108_2 ((rd_T43 l0 x4_1).f2).length c108_2)).trans hx112_2; replace hx112_3 := (cell_far (p := ⟨gb109, 2, none⟩) (by first | (rw [add_block]; exact hn112_2) | (show (Addr.add _ _).block ≠ _; rw [add_block]; exact hn112_2) | exact hn112_2) (.slice A108_2 ((rd_T43 l0 x4_1).f2).length c108_2)).trans hx112_3; replace hx112_0 := (cell_far (p := ⟨gb109, 3, none⟩) (by first | (rw [add_block]; exact hn112_3) | (show (Addr.add _ _).block ≠ _; rw [add_block]; exact hn112_3) | exact hn112_3) (.bool ((rd_T43 l0 x4_1).f3))).trans hx112_0; replace hx112_1 := (cell_far (p := ⟨gb109, 3, none⟩) (by first | (rw [add_block]; exact hn112_3) | (show (Addr.add _ _).block ≠ _; rw [add_block]; exact hn112_3) | exact hn112_3) (.bool ((rd_T43 l0 x4_1).f3))).trans hx112_1; replace hx112_2 := (cell_far (p := ⟨gb109, 3, none⟩) (by first | (rw [add_block]; exact hn112_3) | (show (Addr.add _ _).block ≠ _; rw [add_block]; exact hn112_3) | exact hn112_3) (.bool ((rd_T43 l0 x4_1).f3))).trans hx112_2; replace hx112_3 := (cell_far (p := ⟨gb109, 3, none⟩) (by first | (rw [add_block]; exact hn112_3) | (show (Addr.add _ _).block ≠ _; rw [add_block]; exact hn112_3) | exact hn112_3) (.bool ((rd_T43 l0 x4_1).f3))).trans hx112_3; (try have hy112_0 := fun (n_ : Nat) => (show ((((((w12.drewN n_).setCell ⟨gb109, 0, none⟩ (.int .i64 ((rd_T43 l0 x4_1).f0))).setCell ⟨gb109, 1, none⟩ (.int .i64 ((rd_T43 l0 x4_1).f1))).setCell ⟨gb109, 2, none⟩ (.slice A108_2 ((rd_T43 l0 x4_1).f2).length c108_2)).setCell ⟨gb109, 3, none⟩ (.bool ((rd_T43 l0 x4_1).f3)))).cell? _ = some _ from hx112_0)); (try have hy112_1 := fun (n_ : Nat) => (show ((((((w12.drewN n_).setCell ⟨gb109, 0, none⟩ (.int .i64 ((rd_T43 l0 x4_1).f0))).setCell ⟨gb109, 1, none⟩ (.int .i64 ((rd_T43 l0 x4_1).f1))).setCell ⟨gb109, 2, none⟩ (.slice A108_2 ((rd_T43 l0 x4_1).f2).length c108_2)).setCell ⟨gb109, 3, none⟩ (.bool ((rd_T43 l0 x4_1).f3)))).cell? _ = some _ from hx112_1)); (try have hy112_2 := fun (n_ : Nat) => (show ((((((w12.drewN n_).setCell ⟨gb109, 0, none⟩ (.int .i64 ((rd_T43 l0 x4_1).f0))).setCell ⟨gb109, 1, none⟩ (.int .i64 ((rd_T43 l0 x4_1).f1))).setCell ⟨gb109, 2, none⟩ (.slice A108_2 ((rd_T43 l0 x4_1).f2).length c108_2)).setCell ⟨gb109, 3, none⟩ (.bool ((rd_T43 l0 x4_1).f3)))).cell? _ = some _ from hx112_2)); (try have hy112_3 := fun (n_ : Nat) => (show ((((((w12.drewN n_).setCell ⟨gb109, 0, none⟩ (.int .i64 ((rd_T43 l0 x4_1).f0))).setCell ⟨gb109, 1, none⟩ (.int .i64 ((rd_T43 l0 x4_1).f1))).setCell ⟨gb109, 2, none⟩ (.slice A108_2 ((rd_T43 l0 x4_1).f2).length c108_2)).setCell ⟨gb109, 3, none⟩ (.bool ((rd_T43 l0 x4_1).f3)))).cell? _ = some _ from hx112_3)); clear hn112_0; clear hn112_1; clear hn112_2; clear hn112_3; replace p112 := eq_true p112; replace q112 := eq_true q112)))
           go_roundg k1
           case measure => have := HK1.out; omega
           case rel => exact ⟨(wrap64 (((rd_T43 l0 x4_1).f1) + 1)), (wrap64 (x4_1 + 1)), (by first | rfl | (simp; done) | (simp [*]; done)), (by first | rfl | (simp; done) | (simp [*]; done)), H', ⟨by have := HK1.out; omega⟩, ⟨by repeat (first | (with_reducible first | exact HB.out | apply bal | apply pdn | apply bd1 | refine bst ?_ GE109.out) | exact HB.out)⟩⟩
          ·rw [if_neg c11] at H
           have c11b0 : ((((rd_T43 l0 x4_1).f2).length : Int) == (((rd_T43 l0 0).f2).length : Int)) = false := beq_eq_false_iff_ne.mpr c11
           have c11b1 : ((((rd_T43 l0 x4_1).f2).length : Int) != (((rd_T43 l0 0).f2).length : Int)) = true := bne_iff_ne.mpr c11
           have c11b2 : (((rd_T43 l0 x4_1).f2).length == ((rd_T43 l0 0).f2).length) = false := by first | simpa using c11 | (simp at c11 ⊢; omega)
           obtain rfl := Option.some.inj H
           have p108 : 0 ≤ (x4_1 : Int) := of_decide_eq_true (by first | (with_reducible assumption) | assumption)
           have q108 : x4_1 < (l0.length : Int) := of_decide_eq_true (by first | (with_reducible assumption) | assumption)
           obtain ⟨ad108, A108_2, c108_2, e108, hx108_0, hx108_1, hx108_2, hx108_3, hl108_2, hi108_2⟩ := at_T43 HR0.out x4_1 p108 q108
           cases e108
           replace hx108_0 := (HB.out.cell (blc w _ hx108_0)).trans hx108_0
           replace hx108_1 := (HB.out.cell (blc w _ hx108_1)).trans hx108_1
           replace hx108_2 := (HB.out.cell (blc w _ hx108_2)).trans hx108_2
           replace hx108_3 := (HB.out.cell (blc w _ hx108_3)).trans hx108_3
           have HR108_2 := am hi108_2
           have HC108_2 := am hl108_2
           clear hi108_2 hl108_2
           replace p108 := eq_true p108
           replace q108 := eq_true q108
           try (have p112 : 0 ≤ (0 : Int) := (by omega); have q112 : 0 < (l0.length : Int) := of_decide_eq_true (by first | (with_reducible assumption) | assumption); obtain ⟨ad112, A112_2, c112_2, e112, hx112_0, hx112_1, hx112_2, hx112_3, hl112_2, hi112_2⟩ := at_T43 HR0.out 0 p112 q112; obtain rfl : ad108 = ad112 := (by injection e112); have qi112 : (0 < l0.length) = True := eq_true (by omega); (try rw [show ((0 : Int)).toNat = 0 from rfl] at hx112_0); (try rw [show 0 * 4 = 0 from rfl] at hx112_0); (try rw [Addr.add_zero'] at hx112_0); (try rw [show ((0 : Int)).toNat = 0 from rfl] at hx112_1); (try rw [show 0 * 4 = 0 from rfl] at hx112_1); (try rw [Addr.add_zero'] at hx112_1); (try rw [show ((0 : Int)).toNat = 0 from rfl] at hx112_2); (try rw [show 0 * 4 = 0 from rfl] at hx112_2); (try rw [Addr.add_zero'] at hx112_2); (try rw [show ((0 : Int)).toNat = 0 from rfl] at hx112_3); (try rw [show 0 * 4 = 0 from rfl] at hx112_3); (try rw [Addr.add_zero'] at hx112_3); have hn112_0 : ad108.block ≠ gb109 := Nat.ne_of_lt (Nat.lt_of_lt_of_le (by have := blc _ _ hx112_0; first | rwa [add_block] at this | exact this) GW109.out); have hn112_1 : ad108.block ≠ gb109 := Nat.ne_of_lt (Nat.lt_of_lt_of_le (by have := blc _ _ hx112_0; first | rwa [add_block] at this | exact this) GW109.out); have hn112_2 : ad108.block ≠ gb109 := Nat.ne_of_lt (Nat.lt_of_lt_of_le (by have := blc _ _ hx112_0; first | rwa [add_block] at this | exact this) GW109.out); have hn112_3 : ad108.block ≠ gb109 := Nat.ne_of_lt (Nat.lt_of_lt_of_le (by have := blc _ _ hx112_0; first | rwa [add_block] at this | exact this) GW109.out); replace hx112_0 := (HB.out.cell (blc w _ hx112_0)).trans hx112_0; replace hx112_1 := (HB.out.cell (blc w _ hx112_1)).trans hx112_1; replace hx112_2 := (HB.out.cell (blc w _ hx112_2)).trans hx112_2; replace hx112_3 := (HB.out.cell (blc w _ hx112_3)).trans hx112_3; have HR112_2 := am hi112_2; have HC112_2 := am hl112_2; clear hi112_2 hl112_2; replace hx112_0 := (cell_far (p := ⟨gb109, 0, none⟩) (by first | (rw [add_block]; exact hn112_0) | (show (Addr.add _ _).block ≠ _; rw [add_block]; exact hn112_0) | exact hn112_0) (.int .i64 ((rd_T43 l0 x4_1).f0))).trans hx112_0; replace hx112_1 := (cell_far (p := ⟨gb109, 0, none⟩) (by first | (rw [add_block]; exact hn112_0) | (show (Addr.add _ _).block ≠ _; rw [add_block]; exact hn112_0) | exact hn112_0) (.int .i64 ((rd_T43 l0 x4_1).f0))).trans hx112_1; replace hx112_2 := (cell_far (p := ⟨gb109, 0, none⟩) (by first | (rw [add_block]; exact hn112_0) | (show (Addr.add _ _).block ≠ _; rw [add_block]; exact hn112_0) | exact hn112_0) (.int .i64 ((rd_T43 l0 x4_1).f0))).trans hx112_2; replace hx112_3 := (cell_far (p := ⟨gb109, 0, none⟩) (by first | (rw [add_block]; exact hn112_0) | (show (Addr.add _ _).block ≠ _; rw [add_block]; exact hn112_0) | exact hn112_0) (.int .i64 ((rd_T43 l0 x4_1).f0))).trans hx112_3; replace hx112_0 := (cell_far (p := ⟨gb109, 1, none⟩) (by first | (rw [add_block]; exact hn112_1) | (show (Addr.add _ _).block ≠ _; rw [add_block]; exact hn112_1) | exact hn112_1) (.int .i64 ((rd_T43 l0 x4_1).f1))).trans hx112_0; replace hx112_1 := (cell_far (p := ⟨gb109, 1, none⟩) (by first | (rw [add_block]; exact hn112_1) | (show (Addr.add _ _).block ≠ _; rw [add_block]; exact hn112_1) | exact hn112_1) (.int .i64 ((rd_T43 l0 x4_1).f1))).trans hx112_1; replace hx112_2 := (cell_far (p := ⟨gb109, 1, none⟩) (by first | (rw [add_block]; exact hn112_1) | (show (Addr.add _ _).block ≠ _; rw [add_block]; exact hn112_1) | exact hn112_1) (.int .i64 ((rd_T43 l0 x4_1).f1))).trans hx112_2; replace hx112_3 := (cell_far (p := ⟨gb109, 1, none⟩) (by first | (rw [add_block]; exact hn112_1) | (show (Addr.add _ _).block ≠ _; rw [add_block]; exact hn112_1) | exact hn112_1) (.int .i64 ((rd_T43 l0 x4_1).f1))).trans hx112_3; replace hx112_0 := (cell_far (p := ⟨gb109, 2, none⟩) (by first | (rw [add_block]; exact hn112_2) | (show (Addr.add _ _).block ≠ _; rw [add_block]; exact hn112_2) | exact hn112_2) (.slice A108_2 ((rd_T43 l0 x4_1).f2).length c108_2)).trans hx112_0; replace hx112_1 := (cell_far (p := ⟨gb109, 2, none⟩) (by first | (rw [add_block]; exact hn112_2) | (show (Addr.add _ _).block ≠ _; rw [add_block]; exact hn112_2) | exact hn112_2) (.slice A108_2 ((rd_T43 l0 x4_1).f2).length c108_2)).trans hx112_1; replace hx112_2 := (cell_far (p := ⟨gb109, 2, none⟩) (by first | (rw [add_block]; exact hn112_2) | (show (Addr.add _ _).block ≠ _; rw [add_block]; exact hn112_2) | exact hn112_2) (.slice A108_2 ((rd_T43 l0 x4_1).f2).length c108_2)).trans hx112_2; replace hx112_3 := (cell_far (p := ⟨gb109, 2, none⟩) (by first | (rw [add_block]; exact hn112_2) | (show (Addr.add _ _).block ≠ _; rw [add_block]; exact hn112_2) | exact hn112_2) (.slice A108_2 ((rd_T43 l0 x4_1).f2).length c108_2)).trans hx112_3; replace hx112_0 := (cell_far (p := ⟨gb109, 3, none⟩) (by first | (rw [add_block]; exact hn112_3) | (show (Addr.add _ _).block ≠ _; rw [add_block]; exact hn112_3) | exact hn112_3) (.bool ((rd_T43 l0 x4_1).f3))).trans hx112_0; replace hx112_1 := (cell_far (p := ⟨gb109, 3, none⟩) (by first | (rw [add_block]; exact hn112_3) | (show (Addr.add _ _).block ≠ _; rw [add_block]; exact hn112_3) | exact hn112_3) (.bool ((rd_T43 l0 x4_1).f3))).trans hx112_1; replace hx112_2 := (cell_far (p := ⟨gb109, 3, none⟩) (by first | (rw [add_block]; exact hn112_3) | (show (Addr.add _ _).block ≠ _; rw [add_block]; exact hn112_3) | exact hn112_3) (.bool ((rd_T43 l0 x4_1).f3))).trans hx112_2; replace hx112_3 := (cell_far (p := ⟨gb109, 3, none⟩) (by first | (rw [add_block]; exact hn112_3) | (show (Addr.add _ _).block ≠ _; rw [add_block]; exact hn112_3) | exact hn112_3) (.bool ((rd_T43 l0 x4_1).f3))).trans hx112_3; (try have hy112_0 := fun (n_ : Nat) => (show ((((((w14.drewN n_).setCell ⟨gb109, 0, none⟩ (.int .i64 ((rd_T43 l0 x4_1).f0))).setCell ⟨gb109, 1, none⟩ (.int .i64 ((rd_T43 l0 x4_1).f1))).setCell ⟨gb109, 2, none⟩ (.slice A108_2 ((rd_T43 l0 x4_1).f2).length c108_2)).setCell ⟨gb109, 3, none⟩ (.bool ((rd_T43 l0 x4_1).f3)))).cell? _ = some _ from hx112_0)); (try have hy112_1 := fun (n_ : Nat) => (show ((((((w14.drewN n_).setCell ⟨gb109, 0, none⟩ (.int .i64 ((rd_T43 l0 x4_1).f0))).setCell ⟨gb109, 1, none⟩ (.int .i64 ((rd_T43 l0 x4_1).f1))).setCell ⟨gb109, 2, none⟩ (.slice A108_2 ((rd_T43 l0 x4_1).f2).length c108_2)).setCell ⟨gb109, 3, none⟩ (.bool ((rd_T43 l0 x4_1).f3)))).cell? _ = some _ from hx112_1)); (try have hy112_2 := fun (n_ : Nat) => (show ((((((w14.drewN n_).setCell ⟨gb109, 0, none⟩ (.int .i64 ((rd_T43 l0 x4_1).f0))).setCell ⟨gb109, 1, none⟩ (.int .i64 ((rd_T43 l0 x4_1).f1))).setCell ⟨gb109, 2, none⟩ (.slice A108_2 ((rd_T43 l0 x4_1).f2).length c108_2)).setCell ⟨gb109, 3, none⟩ (.bool ((rd_T43 l0 x4_1).f3)))).cell? _ = some _ from hx112_2)); (try have hy112_3 := fun (n_ : Nat) => (show ((((((w14.drewN n_).setCell ⟨gb109, 0, none⟩ (.int .i64 ((rd_T43 l0 x4_1).f0))).setCell ⟨gb109, 1, none⟩ (.int .i64 ((rd_T43 l0 x4_1).f1))).setCell ⟨gb109, 2, none⟩ (.slice A108_2 ((rd_T43 l0 x4_1).f2).length c108_2)).setCell ⟨gb109, 3, none⟩ (.bool ((rd_T43 l0 x4_1).f3)))).cell? _ = some _ from hx112_3)); clear hn112_0; clear hn112_1; clear hn112_2; clear hn112_3; replace p112 := eq_true p112; replace q112 := eq_true q112)
           go_wp2_with (first | ((with_reducible refine gate_dst (N := 5) rfl ?_); (try (refine gate_guard (by rfl) ?_; dsimp only)); refine box_event ?hg (N := 5) ?hd (cs := #[.int .i64 0, .int .i64 0, .slice none 0 0, .bool false]) (t := 43) ?hr ?_; (case hd => rfl); (case hg => rfl); (case hr => first | (go_simp; done) | (go_simp; rfl)); intro gb109 hg w14 hbox hb; have n0_ := am (below_step (by repeat (first | (with_reducible first | exact HB.out | apply bal | apply pdn | apply bd1) | exact HB.out)) hb); have n1_ := am (hbox); have n2_ := am ((by rw [hg]; exact (below_size (by repeat (first | (with_reducible first | exact HB.out | apply bal | apply pdn | apply bd1) | exact HB.out))) : w.heap.size ≤ gb109)); have n3_ := am ((by rw [hg]; exact (below_size (by repeat (first | (with_reducible first | exact HB.out | apply bal | apply pdn | apply bd1) | exact HB.out))) : w.heap.size ≤ gb109)); clear HB; have HB := n0_; have BK109 := n1_; have GW109 := n2_; have GE109 := n3_; clear n0_ n1_ n2_ n3_; clear hb hbox hg; have hcz15_0 : w14.cell? ⟨gb109, 0, none⟩ = some (.int .i64 0) := (kce BK109.out 0).trans rfl; have hcz15_1 : w14.cell? ⟨gb109, 1, none⟩ = some (.int .i64 0) := (kce BK109.out 1).trans rfl; have hcz15_2 : w14.cell? ⟨gb109, 2, none⟩ = some (.slice none 0 0) := (kce BK109.out 2).trans rfl; have hcz15_3 : w14.cell? ⟨gb109, 3, none⟩ = some (.bool false) := (kce BK109.out 3).trans rfl; have hfz15_0 := kfr BK109.out 0; have hfz15_1 := kfr BK109.out 1; have hfz15_2 := kfr BK109.out 2; have hfz15_3 := kfr BK109.out 3) | (go_at_call 65; (with_reducible refine (spec_l00In.calls ((rd_T43 l0 x4_1).f1) ((rd_T43 l0 x4_1).f0) 60 true _ A6.out).mono ?_); rintro e w' ⟨rfl, ⟨nd, rfl⟩⟩; (try first | exact ⟨rfl, _, World.drewN_drewN _ _ _⟩ | exact ⟨rfl, _, Eq.trans (World.drewN_drewN _ _ _) (congrArg (World.drewN _) (Nat.add_assoc _ _ _))⟩)) | (go_at_call 46; (with_reducible refine (spec_l12Ok.calls k1 _ _ ((rd_T43 l0 x4_1).f2) true _ ?side1 ?side2 A8.out).mono ?_); (case side1 => exact Kd.C_below HR108_2.out (by repeat (first | (with_reducible first | exact HB.out | apply bal | apply pdn | apply bd1 | refine bst ?_ GE109.out) | exact HB.out))); (case side2 => exact HC108_2.out); rintro e w' ⟨rfl, ⟨nd, rfl⟩⟩; (try first | exact ⟨rfl, _, World.drewN_drewN _ _ _⟩ | exact ⟨rfl, _, Eq.trans (World.drewN_drewN _ _ _) (congrArg (World.drewN _) (Nat.add_assoc _ _ _))⟩); have p112 : 0 ≤ (0 : Int) := (by omega); have q112 : 0 < (l0.length : Int) := of_decide_eq_true (by first | (with_reducible assumption) | assumption); obtain ⟨ad112, A112_2, c112_2, e112, hx112_0, hx112_1, hx112_2, hx112_3, hl112_2, hi112_2⟩ := at_T43 HR0.out 0 p112 q112; obtain rfl : ad108 = ad112 := (by injection e112); have qi112 : (0 < l0.length) = True := eq_true (by omega); (try rw [show ((0 : Int)).toNat = 0 from rfl] at hx112_0); (try rw [show 0 * 4 = 0 from rfl] at hx112_0); (try rw [Addr.add_zero'] at hx112_0); (try rw [show ((0 : Int)).toNat = 0 from rfl] at hx112_1); (try rw [show 0 * 4 = 0 from rfl] at hx112_1); (try rw [Addr.add_zero'] at hx112_1); (try rw [show ((0 : Int)).toNat = 0 from rfl] at hx112_2); (try rw [show 0 * 4 = 0 from rfl] at hx112_2); (try rw [Addr.add_zero'] at hx112_2); (try rw [show ((0 : Int)).toNat = 0 from rfl] at hx112_3); (try rw [show 0 * 4 = 0 from rfl] at hx112_3); (try rw [Addr.add_zero'] at hx112_3); have hn112_0 : ad108.block ≠ gb109 := Nat.ne_of_lt (Nat.lt_of_lt_of_le (by have := blc _ _ hx112_0; first | rwa [add_block] at this | exact this) GW109.out); have hn112_1 : ad108.block ≠ gb109 := Nat.ne_of_lt (Nat.lt_of_lt_of_le (by have := blc _ _ hx112_0; first | rwa [add_block] at this | exact this) GW109.out); have hn112_2 : ad108.block ≠ gb109 := Nat.ne_of_lt (Nat.lt_of_lt_of_le (by have := blc _ _ hx112_0; first | rwa [add_block] at this | exact this) GW109.out); have hn112_3 : ad108.block ≠ gb109 := Nat.ne_of_lt (Nat.lt_of_lt_of_le (by have := blc _ _ hx112_0; first | rwa [add_block] at this | exact this) GW109.out); replace hx112_0 := (HB.out.cell (blc w _ hx112_0)).trans hx112_0; replace hx112_1 := (HB.out.cell (blc w _ hx112_1)).trans hx112_1; replace hx112_2 := (HB.out.cell (blc w _ hx112_2)).trans hx112_2; replace hx112_3 := (HB.out.cell (blc w _ hx112_3)).trans hx112_3; have HR112_2 := am hi112_2; have HC112_2 := am hl112_2; clear hi112_2 hl112_2; replace hx112_0 := (cell_far (p := ⟨gb109, 0, none⟩) (by first | (rw [add_block]; exact hn112_0) | (show (Addr.add _ _).block ≠ _; rw [add_block]; exact hn112_0) | exact hn112_0) (.int .i64 ((rd_T43 l0 x4_1).f0))).trans hx112_0; replace hx112_1 := (cell_far (p := ⟨gb109, 0, none⟩) (by first | (rw [add_block]; exact hn112_0) | (show (Addr.add _ _).block ≠ _; rw [add_block]; exact hn112_0) | exact hn112_0) (.int .i64 ((rd_T43 l0 x4_1).f0))).trans hx112_1; replace hx112_2 := (cell_far (p := ⟨gb109, 0, none⟩) (by first | (rw [add_block]; exact hn112_0) | (show (Addr.add _ _).block ≠ _; rw [add_block]; exact hn112_0) | exact hn112_0) (.int .i64 ((rd_T43 l0 x4_1).f0))).trans hx112_2; replace hx112_3 := (cell_far (p := ⟨gb109, 0, none⟩) (by first | (rw [add_block]; exact hn112_0) | (show (Addr.add _ _).block ≠ _; rw [add_block]; exact hn112_0) | exact hn112_0) (.int .i64 ((rd_T43 l0 x4_1).f0))).trans hx112_3; replace hx112_0 := (cell_far (p := ⟨gb109, 1, none⟩) (by first | (rw [add_block]; exact hn112_1) | (show (Addr.add _ _).block ≠ _; rw [add_block]; exact hn112_1) | exact hn112_1) (.int .i64 ((rd_T43 l0 x4_1).f1))).trans hx112_0; replace hx112_1 := (cell_far (p := ⟨gb109, 1, none⟩) (by first | (rw [add_block]; exact hn112_1) | (show (Addr.add _ _).block ≠ _; rw [add_block]; exact hn112_1) | exact hn112_1) (.int .i64 ((rd_T43 l0 x4_1).f1))).trans hx112_1; replace hx112_2 := (cell_far (p := ⟨gb109, 1, none⟩) (by first | (rw [add_block]; exact hn112_1) | (show (Addr.add _ _).block ≠ _; rw [add_block]; exact hn112_1) | exact hn112_1) (.int .i64 ((rd_T43 l0 x4_1).f1))).trans hx112_2; replace hx112_3 := (cell_far (p := ⟨gb109, 1, none⟩) (by first | (rw [add_block]; exact hn112_1) | (show (Addr.add _ _).block ≠ _; rw [add_block]; exact hn112_1) | exact hn112_1) (.int .i64 ((rd_T43 l0 x4_1).f1))).trans hx112_3; replace hx112_0 := (cell_far (p := ⟨gb109, 2, none⟩) (by first | (rw [add_block]; exact hn112_2) | (show (Addr.add _ _).block ≠ _; rw [add_block]; exact hn112_2) | exact hn112_2) (.slice A108_2 ((rd_T43 l0 x4_1).f2).length c108_2)).trans hx112_0; replace hx112_1 := (cell_far (p := ⟨gb109, 2, none⟩) (by first | (rw [add_block]; exact hn112_2) | (show (Addr.add _ _).block ≠ _; rw [add_block]; exact hn112_2) | exact hn112_2) (.slice A108_2 ((rd_T43 l0 x4_1).f2).length c108_2)).trans hx112_1; replace hx112_2 := (cell_far (p := ⟨gb109, 2, none⟩) (by first | (rw [add_block]; exact hn112_2) | (show (Addr.add _ _).block ≠ _; rw [add_block]; exact hn112_2) | exact hn112_2) (.slice A108_2 ((rd_T43 l0 x4_1).f2).length c108_2)).trans hx112_2; replace hx112_3 := (cell_far (p := ⟨gb109, 2, none⟩) (by first | (rw [add_block]; exact hn112_2) | (show (Addr.add _ _).block ≠ _; rw [add_block]; exact hn112_2) | exact hn112_2) (.slice A108_2 ((rd_T43 l0 x4_1).f2).length c108_2)).trans hx112_3; replace hx112_0 := (cell_far (p := ⟨gb109, 3, none⟩) (by first | (rw [add_block]; exact hn112_3) | (show (Addr.add _ _).block ≠ _; rw [add_block]; exact hn112_3) | exact hn112_3) (.bool ((rd_T43 l0 x4_1).f3))).trans hx112_0; replace hx112_1 := (cell_far (p := ⟨gb109, 3, none⟩) (by first | (rw [add_block]; exact hn112_3) | (show (Addr.add _ _).block ≠ _; rw [add_block]; exact hn112_3) | exact hn112_3) (.bool ((rd_T43 l0 x4_1).f3))).trans hx112_1; replace hx112_2 := (cell_far (p := ⟨gb109, 3, none⟩) (by first | (rw [add_block]; exact hn112_3) | (show (Addr.add _ _).block ≠ _; rw [add_block]; exact hn112_3) | exact hn112_3) (.bool ((rd_T43 l0 x4_1).f3))).trans hx112_2; replace hx112_3 := (cell_far (p := ⟨gb109, 3, none⟩) (by first | (rw [add_block]; exact hn112_3) | (show (Addr.add _ _).block ≠ _; rw [add_block]; exact hn112_3) | exact hn112_3) (.bool ((rd_T43 l0 x4_1).f3))).trans hx112_3; (try have hy112_0 := fun (n_ : Nat) => (show ((((((w14.drewN n_).setCell ⟨gb109, 0, none⟩ (.int .i64 ((rd_T43 l0 x4_1).f0))).setCell ⟨gb109, 1, none⟩ (.int .i64 ((rd_T43 l0 x4_1).f1))).setCell ⟨gb109, 2, none⟩ (.slice A108_2 ((rd_T43 l0 x4_1).f2).length c108_2)).setCell ⟨gb109, 3, none⟩ (.bool ((rd_T43 l0 x4_1).f3)))).cell? _ = some _ from hx112_0)); (try have hy112_1 := fun (n_ : Nat) => (show ((((((w14.drewN n_).setCell ⟨gb109, 0, none⟩ (.int .i64 ((rd_T43 l0 x4_1).f0))).setCell ⟨gb109, 1, none⟩ (.int .i64 ((rd_T43 l0 x4_1).f1))).setCell ⟨gb109, 2, none⟩ (.slice A108_2 ((rd_T43 l0 x4_1).f2).length c108_2)).setCell ⟨gb109, 3, none⟩ (.bool ((rd_T43 l0 x4_1).f3)))).cell? _ = some _ from hx112_1)); (try have hy112_2 := fun (n_ : Nat) => (show ((((((w14.drewN n_).setCell ⟨gb109, 0, none⟩ (.int .i64 ((rd_T43 l0 x4_1).f0))).setCell ⟨gb109, 1, none⟩ (.int .i64 ((rd_T43 l0 x4_1).f1))).setCell ⟨gb109, 2, none⟩ (.slice A108_2 ((rd_T43 l0 x4_1).f2).length c108_2)).setCell ⟨gb109, 3, none⟩ (.bool ((rd_T43 l0 x4_1).f3)))).cell? _ = some _ from hx112_2)); (try have hy112_3 := fun (n_ : Nat) => (show ((((((w14.drewN n_).setCell ⟨gb109, 0, none⟩ (.int .i64 ((rd_T43 l0 x4_1).f0))).setCell ⟨gb109, 1, none⟩ (.int .i64 ((rd_T43 l0 x4_1).f1))).setCell ⟨gb109, 2, none⟩ (.slice A108_2 ((rd_T43 l0 x4_1).f2).length c108_2)).setCell ⟨gb109, 3, none⟩ (.bool ((rd_T43 l0 x4_1).f3)))).cell? _ = some _ from hx112_3)); clear hn112_0; clear hn112_1; clear hn112_2; clear hn112_3; replace p112 := eq_true p112; replace q112 := eq_true q112))
           first | (have hz_ := hy112_3; clear hz_) | (have p112 : 0 ≤ (0 : Int) := (by omega); have q112 : 0 < (l0.length : Int) := of_decide_eq_true (by first | (with_reducible assumption) | assumption); obtain ⟨ad112, A112_2, c112_2, e112, hx112_0, hx112_1, hx112_2, hx112_3, hl112_2, hi112_2⟩ := at_T43 HR0.out 0 p112 q112; obtain rfl : ad108 = ad112 := (by injection e112); have qi112 : (0 < l0.length) = True := eq_true (by omega); (try rw [show ((0 : Int)).toNat = 0 from rfl] at hx112_0); (try rw [show 0 * 4 = 0 from rfl] at hx112_0); (try rw [Addr.add_zero'] at hx112_0); (try rw [show ((0 : Int)).toNat = 0 from rfl] at hx112_1); (try rw [show 0 * 4 = 0 from rfl] at hx112_1); (try rw [Addr.add_zero'] at hx112_1); (try rw [show ((0 : Int)).toNat = 0 from rfl] at hx112_2); (try rw [show 0 * 4 = 0 from rfl] at hx112_2); (try rw [Addr.add_zero'] at hx112_2); (try rw [show ((0 : Int)).toNat = 0 from rfl] at hx112_3); (try rw [show 0 * 4 = 0 from rfl] at hx112_3); (try rw [Addr.add_zero'] at hx112_3); have hn112_0 : ad108.block ≠ gb109 := Nat.ne_of_lt (Nat.lt_of_lt_of_le (by have := blc _ _ hx112_0; first | rwa [add_block] at this | exact this) GW109.out); have hn112_1 : ad108.block ≠ gb109 := Nat.ne_of_lt (Nat.lt_of_lt_of_le (by have := blc _ _ hx112_0; first | rwa [add_block] at this | exact this) GW109.out); have hn112_2 : ad108.block ≠ gb109 := Nat.ne_of_lt (Nat.lt_of_lt_of_le (by have := blc _ _ hx112_0; first | rwa [add_block] at this | exact this) GW109.out); have hn112_3 : ad108.block ≠ gb109 := Nat.ne_of_lt (Nat.lt_of_lt_of_le (by have := blc _ _ hx112_0; first | rwa [add_block] at this | exact this) GW109.out); replace hx112_0 := (HB.out.cell (blc w _ hx112_0)).trans hx112_0; replace hx112_1 := (HB.out.cell (blc w _ hx112_1)).trans hx112_1; replace hx112_2 := (HB.out.cell (blc w _ hx112_2)).trans hx112_2; replace hx112_3 := (HB.out.cell (blc w _ hx112_3)).trans hx112_3; have HR112_2 := am hi112_2; have HC112_2 := am hl112_2; clear hi112_2 hl112_2; replace hx112_0 := (cell_far (p := ⟨gb109, 0, none⟩) (by first | (rw [add_block]; exact hn112_0) | (show (Addr.add _ _).block ≠ _; rw [add_block]; exact hn112_0) | exact hn112_0) (.int .i64 ((rd_T43 l0 x4_1).f0))).trans hx112_0; replace hx112_1 := (cell_far (p := ⟨gb109, 0, none⟩) (by first | (rw [add_block]; exact hn112_0) | (show (Addr.add _ _).block ≠ _; rw [add_block]; exact hn112_0) | exact hn112_0) (.int .i64 ((rd_T43 l0 x4_1).f0))).trans hx112_1; replace hx112_2 := (cell_far (p := ⟨gb109, 0, none⟩) (by first | (rw [add_block]; exact hn112_0) | (show (Addr.add _ _).block ≠ _; rw [add_block]; exact hn112_0) | exact hn112_0) (.int .i64 ((rd_T43 l0 x4_1).f0))).trans hx112_2; replace hx112_3 := (cell_far (p := ⟨gb109, 0, none⟩) (by first | (rw [add_block]; exact hn112_0) | (show (Addr.add _ _).block ≠ _; rw [add_block]; exact hn112_0) | exact hn112_0) (.int .i64 ((rd_T43 l0 x4_1).f0))).trans hx112_3; replace hx112_0 := (cell_far (p := ⟨gb109, 1, none⟩) (by first | (rw [add_block]; exact hn112_1) | (show (Addr.add _ _).block ≠ _; rw [add_block]; exact hn112_1) | exact hn112_1) (.int .i64 ((rd_T43 l0 x4_1).f1))).trans hx112_0; replace hx112_1 := (cell_far (p := ⟨gb109, 1, none⟩) (by first | (rw [add_block]; exact hn112_1) | (show (Addr.add _ _).block ≠ _; rw [add_block]; exact hn112_1) | exact hn112_1) (.int .i64 ((rd_T43 l0 x4_1).f1))).trans hx112_1; replace hx112_2 := (cell_far (p := ⟨gb109, 1, none⟩) (by first | (rw [add_block]; exact hn112_1) | (show (Addr.add _ _).block ≠ _; rw [add_block]; exact hn112_1) | exact hn112_1) (.int .i64 ((rd_T43 l0 x4_1).f1))).trans hx112_2; replace hx112_3 := (cell_far (p := ⟨gb109, 1, none⟩) (by first | (rw [add_block]; exact hn112_1) | (show (Addr.add _ _).block ≠ _; rw [add_block]; exact hn112_1) | exact hn112_1) (.int .i64 ((rd_T43 l0 x4_1).f1))).trans hx112_3; replace hx112_0 := (cell_far (p := ⟨gb109, 2, none⟩) (by first | (rw [add_block]; exact hn112_2) | (show (Addr.add _ _).block ≠ _; rw [add_block]; exact hn112_2) | exact hn112_2) (.slice A108_2 ((rd_T43 l0 x4_1).f2).length c108_2)).trans hx112_0; replace hx112_1 := (cell_far (p := ⟨gb109, 2, none⟩) (by first | (rw [add_block]; exact hn112_2) | (show (Addr.add _ _).block ≠ _; rw [add_block]; exact hn112_2) | exact hn112_2) (.slice A108_2 ((rd_T43 l0 x4_1).f2).length c108_2)).trans hx112_1; replace hx112_2 := (cell_far (p := ⟨gb109, 2, none⟩) (by first | (rw [add_block]; exact hn112_2) | (show (Addr.add _ _).block ≠ _; rw [add_block]; exact hn112_2) | exact hn112_2) (.slice A108_2 ((rd_T43 l0 x4_1).f2).length c108_2)).trans hx112_2; replace hx112_3 := (cell_far (p := ⟨gb109, 2, none⟩) (by first | (rw [add_block]; exact hn112_2) | (show (Addr.add _ _).block ≠ _; rw [add_block]; exact hn112_2) | exact hn112_2) (.slice A108_2 ((rd_T43 l0 x4_1).f2).length c108_2)).trans hx112_3; replace hx112_0 := (cell_far (p := ⟨gb109, 3, none⟩) (by first | (rw [add_block]; exact hn112_3) | (show (Addr.add _ _).block ≠ _; rw [add_block]; exact hn112_3) | exact hn112_3) (.bool ((rd_T43 l0 x4_1).f3))).trans hx112_0; replace hx112_1 := (cell_far (p := ⟨gb109, 3, none⟩) (by first | (rw [add_block]; exact hn112_3) | (show (Addr.add _ _).block ≠ _; rw [add_block]; exact hn112_3) | exact hn112_3) (.bool ((rd_T43 l0 x4_1).f3))).trans hx112_1; replace hx112_2 := (cell_far (p := ⟨gb109, 3, none⟩) (by first | (rw [add_block]; exact hn112_3) | (show (Addr.add _ _).block ≠ _; rw [add_block]; exact hn112_3) | exact hn112_3) (.bool ((rd_T43 l0 x4_1).f3))).trans hx112_2; replace hx112_3 := (cell_far (p := ⟨gb109, 3, none⟩) (by first | (rw [add_block]; exact hn112_3) | (show (Addr.add _ _).block ≠ _; rw [add_block]; exact hn112_3) | exact hn112_3) (.bool ((rd_T43 l0 x4_1).f3))).trans hx112_3; (try have hy112_0 := fun (n_ : Nat) => (show ((((((w14.drewN n_).setCell ⟨gb109, 0, none⟩ (.int .i64 ((rd_T43 l0 x4_1).f0))).setCell ⟨gb109, 1, none⟩ (.int .i64 ((rd_T43 l0 x4_1).f1))).setCell ⟨gb109, 2, none⟩ (.slice A108_2 ((rd_T43 l0 x4_1).f2).length c108_2)).setCell ⟨gb109, 3, none⟩ (.bool ((rd_T43 l0 x4_1).f3)))).cell? _ = some _ from hx112_0)); (try have hy112_1 := fun (n_ : Nat) => (show ((((((w14.drewN n_).setCell ⟨gb109, 0, none⟩ (.int .i64 ((rd_T43 l0 x4_1).f0))).setCell ⟨gb109, 1, none⟩ (.int .i64 ((rd_T43 l0 x4_1).f1))).setCell ⟨gb109, 2, none⟩ (.slice A108_2 ((rd_T43 l0 x4_1).f2).length c108_2)).setCell ⟨gb109, 3, none⟩ (.bool ((rd_T43 l0 x4_1).f3)))).cell? _ = some _ from hx112_1)); (try have hy112_2 := fun (n_ : Nat) => (show ((((((w14.drewN n_).setCell ⟨gb109, 0, none⟩ (.int .i64 ((rd_T43 l0 x4_1).f0))).setCell ⟨gb109, 1, none⟩ (.int .i64 ((rd_T43 l0 x4_1).f1))).setCell ⟨gb109, 2, none⟩ (.slice A108_2 ((rd_T43 l0 x4_1).f2).length c108_2)).setCell ⟨gb109, 3, none⟩ (.bool ((rd_T43 l0 x4_1).f3)))).cell? _ = some _ from hx112_2)); (try have hy112_3 := fun (n_ : Nat) => (show ((((((w14.drewN n_).setCell ⟨gb109, 0, none⟩ (.int .i64 ((rd_T43 l0 x4_1).f0))).setCell ⟨gb109, 1, none⟩ (.int .i64 ((rd_T43 l0 x4_1).f1))).setCell ⟨gb109, 2, none⟩ (.slice A108_2 ((rd_T43 l0 x4_1).f2).length c108_2)).setCell ⟨gb109, 3, none⟩ (.bool ((rd_T43 l0 x4_1).f3)))).cell? _ = some _ from hx112_3)); clear hn112_0; clear hn112_1; clear hn112_2; clear hn112_3; replace p112 := eq_true p112; replace q112 := eq_true q112) | skip
           repeat (go_quiet (first | ((with_reducible refine gate_dst (N := 5) rfl ?_); (try (refine gate_guard (by rfl) ?_; dsimp only)); refine box_event ?hg (N := 5) ?hd (cs := #[.int .i64 0, .int .i64 0, .slice none 0 0, .bool false]) (t := 43) ?hr ?_; (case hd => rfl); (case hg => rfl); (case hr => first | (go_simp; done) | (go_simp; rfl)); intro gb109 hg w14 hbox hb; have n0_ := am (below_step (by repeat (first | (with_reducible first | exact HB.out | apply bal | apply pdn | apply bd1) | exact HB.out)) hb); have n1_ := am (hbox); have n2_ := am ((by rw [hg]; exact (below_size (by repeat (first | (with_reducible first | exact HB.out | apply bal | apply pdn | apply bd1) | exact HB.out))) : w.heap.size ≤ gb109)); have n3_ := am ((by rw [hg]; exact (below_size (by repeat (first | (with_reducible first | exact HB.out | apply bal | apply pdn | apply bd1) | exact HB.out))) : w.heap.size ≤ gb109)); clear HB; have HB := n0_; have BK109 := n1_; have GW109 := n2_; have GE109 := n3_; clear n0_ n1_ n2_ n3_; clear hb hbox hg; have hcz15_0 : w14.cell? ⟨gb109, 0, none⟩ = some (.int .i64 0) := (kce BK109.out 0).trans rfl; have hcz15_1 : w14.cell? ⟨gb109, 1, none⟩ = some (.int .i64 0) := (kce BK109.out 1).trans rfl; have hcz15_2 : w14.cell? ⟨gb109, 2, none⟩ = some (.slice none 0 0) := (kce BK109.out 2).trans rfl; have hcz15_3 : w14.cell? ⟨gb109, 3, none⟩ = some (.bool false) := (kce BK109.out 3).trans rfl; have hfz15_0 := kfr BK109.out 0; have hfz15_1 := kfr BK109.out 1; have hfz15_2 := kfr BK109.out 2; have hfz15_3 := kfr BK109.out 3) | (go_at_call 65; (with_reducible refine (spec_l00In.calls ((rd_T43 l0 x4_1).f1) ((rd_T43 l0 x4_1).f0) 60 true _ A6.out).mono ?_); rintro e w' ⟨rfl, ⟨nd, rfl⟩⟩; (try first | exact ⟨rfl, _, World.drewN_drewN _ _ _⟩ | exact ⟨rfl, _, Eq.trans (World.drewN_drewN _ _ _) (congrArg (World.drewN _) (Nat.add_assoc _ _ _))⟩)) | (go_at_call 46; (with_reducible refine (spec_l12Ok.calls k1 _ _ ((rd_T43 l0 x4_1).f2) true _ ?side1 ?side2 A8.out).mono ?_); (case side1 => exact Kd.C_below HR108_2.out (by repeat (first | (with_reducible first | exact HB.out | apply bal | apply pdn | apply bd1 | refine bst ?_ GE109.out) | exact HB.out))); (case side2 => exact HC108_2.out); rintro e w' ⟨rfl, ⟨nd, rfl⟩⟩; (try first | exact ⟨rfl, _, World.drewN_drewN _ _ _⟩ | exact ⟨rfl, _, Eq.trans (World.drewN_drewN _ _ _) (congrArg (World.drewN _) (Nat.add_assoc _ _ _))⟩))); try go_wp2_with (first | ((with_reducible refine gate_dst (N := 5) rfl ?_); (try (refine gate_guard (by rfl) ?_; dsimp only)); refine box_event ?hg (N := 5) ?hd (cs := #[.int .i64 0, .int .i64 0, .slice none 0 0, .bool false]) (t := 43) ?hr ?_; (case hd => rfl); (case hg => rfl); (case hr => first | (go_simp; done) | (go_simp; rfl)); intro gb109 hg w14 hbox hb; have n0_ := am (below_step (by repeat (first | (with_reducible first | exact HB.out | apply bal | apply pdn | apply bd1) | exact HB.out)) hb); have n1_ := am (hbox); have n2_ := am ((by rw [hg]; exact (below_size (by repeat (first | (with_reducible first | exact HB.out | apply bal | apply pdn | apply bd1) | exact HB.out))) : w.heap.size ≤ gb109)); have n3_ := am ((by rw [hg]; exact (below_size (by repeat (first | (with_reducible first | exact HB.out | apply bal | apply pdn | apply bd1) | exact HB.out))) : w.heap.size ≤ gb109)); clear HB; have HB := n0_; have BK109 := n1_; have GW109 := n2_; have GE109 := n3_; clear n0_ n1_ n2_ n3_; clear hb hbox hg; have hcz15_0 : w14.cell? ⟨gb109, 0, none⟩ = some (.int .i64 0) := (kce BK109.out 0).trans rfl; have hcz15_1 : w14.cell? ⟨gb109, 1, none⟩ = some (.int .i64 0) := (kce BK109.out 1).trans rfl; have hcz15_2 : w14.cell? ⟨gb109, 2, none⟩ = some (.slice none 0 0) := (kce BK109.out 2).trans rfl; have hcz15_3 : w14.cell? ⟨gb109, 3, none⟩ = some (.bool false) := (kce BK109.out 3).trans rfl; have hfz15_0 := kfr BK109.out 0; have hfz15_1 := kfr BK109.out 1; have hfz15_2 := kfr BK109.out 2; have hfz15_3 := kfr BK109.out 3) | (go_at_call 65; (with_reducible refine (spec_l00In.calls ((rd_T43 l0 x4_1).f1) ((rd_T43 l0 x4_1).f0) 60 true _ A6.out).mono ?_); rintro e w' ⟨rfl, ⟨nd, rfl⟩⟩; (try first | exact ⟨rfl, _, World.drewN_drewN _ _ _⟩ | exact ⟨rfl, _, Eq.trans (World.drewN_drewN _ _ _) (congrArg (World.drewN _) (Nat.add_assoc _ _ _))⟩)) | (go_at_call 46; (with_reducible refine (spec_l12Ok.calls k1 _ _ ((rd_T43 l0 x4_1).f2) true _ ?side1 ?side2 A8.out).mono ?_); (case side1 => exact Kd.C_below HR108_2.out (by repeat (first | (with_reducible first | exact HB.out | apply bal | apply pdn | apply bd1 | refine bst ?_ GE109.out) | exact HB.out))); (case side2 => exact HC108_2.out); rintro e w' ⟨rfl, ⟨nd, rfl⟩⟩; (try first | exact ⟨rfl, _, World.drewN_drewN _ _ _⟩ | exact ⟨rfl, _, Eq.trans (World.drewN_drewN _ _ _) (congrArg (World.drewN _) (Nat.add_assoc _ _ _))⟩); have p112 : 0 ≤ (0 : Int) := (by omega); have q112 : 0 < (l0.length : Int) := of_decide_eq_true (by first | (with_reducible assumption) | assumption); obtain ⟨ad112, A112_2, c112_2, e112, hx112_0, hx112_1, hx112_2, hx112_3, hl112_2, hi112_2⟩ := at_T43 HR0.out 0 p112 q112; obtain rfl : ad108 = ad112 := (by injection e112); have qi112 : (0 < l0.length) = True := eq_true (by omega); (try rw [show ((0 : Int)).toNat = 0 from rfl] at hx112_0); (try rw [show 0 * 4 = 0 from rfl] at hx112_0); (try rw [Addr.add_zero'] at hx112_0); (try rw [show ((0 : Int)).toNat = 0 from rfl] at hx112_1); (try rw [show 0 * 4 = 0 from rfl] at hx112_1); (try rw [Addr.add_zero'] at hx112_1); (try rw [show ((0 : Int)).toNat = 0 from rfl] at hx112_2); (try rw [show 0 * 4 = 0 from rfl] at hx112_2); (try rw [Addr.add_zero'] at hx112_2); (try rw [show ((0 : Int)).toNat = 0 from rfl] at hx112_3); (try rw [show 0 * 4 = 0 from rfl] at hx112_3); (try rw [Addr.add_zero'] at hx112_3); have hn112_0 : ad108.block ≠ gb109 := Nat.ne_of_lt (Nat.lt_of_lt_of_le (by have := blc _ _ hx112_0; first | rwa [add_block] at this | exact this) GW109.out); have hn112_1 : ad108.block ≠ gb109 := Nat.ne_of_lt (Nat.lt_of_lt_of_le (by have := blc _ _ hx112_0; first | rwa [add_block] at this | exact this) GW109.out); have hn112_2 : ad108.block ≠ gb109 := Nat.ne_of_lt (Nat.lt_of_lt_of_le (by have := blc _ _ hx112_0; first | rwa [add_block] at this | exact this) GW109.out); have hn112_3 : ad108.block ≠ gb109 := Nat.ne_of_lt (Nat.lt_of_lt_of_le (by have := blc _ _ hx112_0; first | rwa [add_block] at this | exact this) GW109.out); replace hx112_0 := (HB.out.cell (blc w _ hx112_0)).trans hx112_0; replace hx112_1 := (HB.out.cell (blc w _ hx112_1)).trans hx112_1; replace hx112_2 := (HB.out.cell (blc w _ hx112_2)).trans hx112_2; replace hx112_3 := (HB.out.cell (blc w _ hx112_3)).trans hx112_3; have HR112_2 := am hi112_2; have HC112_2 := am hl112_2; clear hi112_2 hl112_2; replace hx112_0 := (cell_far (p := ⟨gb109, 0, none⟩) (by first | (rw [add_block]; exact hn112_0) | (show (Addr.add _ _).block ≠ _; rw [add_block]; exact hn112_0) | exact hn112_0) (.int .i64 ((rd_T43 l0 x4_1).f0))).trans hx112_0; replace hx112_1 := (cell_far (p := ⟨gb109, 0, none⟩) (by first | (rw [add_block]; exact hn112_0) | (show (Addr.add _ _).block ≠ _; rw [add_block]; exact hn112_0) | exact hn112_0) (.int .i64 ((rd_T43 l0 x4_1).f0))).trans hx112_1; replace hx112_2 := (cell_far (p := ⟨gb109, 0, none⟩) (by first | (rw [add_block]; exact hn112_0) | (show (Addr.add _ _).block ≠ _; rw [add_block]; exact hn112_0) | exact hn112_0) (.int .i64 ((rd_T43 l0 x4_1).f0))).trans hx112_2; replace hx112_3 := (cell_far (p := ⟨gb109, 0, none⟩) (by first | (rw [add_block]; exact hn112_0) | (show (Addr.add _ _).block ≠ _; rw [add_block]; exact hn112_0) | exact hn112_0) (.int .i64 ((rd_T43 l0 x4_1).f0))).trans hx112_3; replace hx112_0 := (cell_far (p := ⟨gb109, 1, none⟩) (by first | (rw [add_block]; exact hn112_1) | (show (Addr.add _ _).block ≠ _; rw [add_block]; exact hn112_1) | exact hn112_1) (.int .i64 ((rd_T43 l0 x4_1).f1))).trans hx112_0; replace hx112_1 := (cell_far (p := ⟨gb109, 1, none⟩) (by first | (rw [add_block]; exact hn112_1) | (show (Addr.add _ _).block ≠ _; rw [add_block]; exact hn112_1) | exact hn112_1) (.int .i64 ((rd_T43 l0 x4_1).f1))).trans hx112_1; replace hx112_2 := (cell_far (p := ⟨gb109, 1, none⟩) (by first | (rw [add_block]; exact hn112_1) | (show (Addr.add _ _).block ≠ _; rw [add_block]; exact hn112_1) | exact hn112_1) (.int .i64 ((rd_T43 l0 x4_1).f1))).trans hx112_2; replace hx112_3 := (cell_far (p := ⟨gb109, 1, none⟩) (by first | (rw [add_block]; exact hn112_1) | (show (Addr.add _ _).block ≠ _; rw [add_block]; exact hn112_1) | exact hn112_1) (.int .i64 ((rd_T43 l0 x4_1).f1))).trans hx112_3; replace hx112_0 := (cell_far (p := ⟨gb109, 2, none⟩) (by first | (rw [add_block]; exact hn112_2) | (show (Addr.add _ _).block ≠ _; rw [add_block]; exact hn112_2) | exact hn112_2) (.slice A108_2 ((rd_T43 l0 x4_1).f2).length c108_2)).trans hx112_0; replace hx112_1 := (cell_far (p := ⟨gb109, 2, none⟩) (by first | (rw [add_block]; exact hn112_2) | (show (Addr.add _ _).block ≠ _; rw [add_block]; exact hn112_2) | exact hn112_2) (.slice A108_2 ((rd_T43 l0 x4_1).f2).length c108_2)).trans hx112_1; replace hx112_2 := (cell_far (p := ⟨gb109, 2, none⟩) (by first | (rw [add_block]; exact hn112_2) | (show (Addr.add _ _).block ≠ _; rw [add_block]; exact hn112_2) | exact hn112_2) (.slice A108_2 ((rd_T43 l0 x4_1).f2).length c108_2)).trans hx112_2; replace hx112_3 := (cell_far (p := ⟨gb109, 2, none⟩) (by first | (rw [add_block]; exact hn112_2) | (show (Addr.add _ _).block ≠ _; rw [add_block]; exact hn112_2) | exact hn112_2) (.slice A108_2 ((rd_T43 l0 x4_1).f2).length c108_2)).trans hx112_3; replace hx112_0 := (cell_far (p := ⟨gb109, 3, none⟩) (by first | (rw [add_block]; exact hn112_3) | (show (Addr.add _ _).block ≠ _; rw [add_block]; exact hn112_3) | exact hn112_3) (.bool ((rd_T43 l0 x4_1).f3))).trans hx112_0; replace hx112_1 := (cell_far (p := ⟨gb109, 3, none⟩) (by first | (rw [add_block]; exact hn112_3) | (show (Addr.add _ _).block ≠ _; rw [add_block]; exact hn112_3) | exact hn112_3) (.bool ((rd_T43 l0 x4_1).f3))).trans hx112_1; replace hx112_2 := (cell_far (p := ⟨gb109, 3, none⟩) (by first | (rw [add_block]; exact hn112_3) | (show (Addr.add _ _).block ≠ _; rw [add_block]; exact hn112_3) | exact hn112_3) (.bool ((rd_T43 l0 x4_1).f3))).trans hx112_2; replace hx112_3 := (cell_far (p := ⟨gb109, 3, none⟩) (by first | (rw [add_block]; exact hn112_3) | (show (Addr.add _ _).block ≠ _; rw [add_block]; exact hn112_3) | exact hn112_3) (.bool ((rd_T43 l0 x4_1).f3))).trans hx112_3; (try have hy112_0 := fun (n_ : Nat) => (show ((((((w14.drewN n_).setCell ⟨gb109, 0, none⟩ (.int .i64 ((rd_T43 l0 x4_1).f0))).setCell ⟨gb109, 1, none⟩ (.int .i64 ((rd_T43 l0 x4_1).f1))).setCell ⟨gb109, 2, none⟩ (.slice A108_2 ((rd_T43 l0 x4_1).f2).length c108_2)).setCell ⟨gb109, 3, none⟩ (.bool ((rd_T43 l0 x4_1).f3)))).cell? _ = some _ from hx112_0)); (try have hy112_1 := fun (n_ : Nat) => (show ((((((w14.drewN n_).setCell ⟨gb109, 0, none⟩ (.int .i64 ((rd_T43 l0 x4_1).f0))).setCell ⟨gb109, 1, none⟩ (.int .i64 ((rd_T43 l0 x4_1).f1))).setCell ⟨gb109, 2, none⟩ (.slice A108_2 ((rd_T43 l0 x4_1).f2).length c108_2)).setCell ⟨gb109, 3, none⟩ (.bool ((rd_T43 l0 x4_1).f3)))).cell? _ = some _ from hx112_1)); (try have hy112_2 := fun (n_ : Nat) => (show ((((((w14.drewN n_).setCell ⟨gb109, 0, none⟩ (.int .i64 ((rd_T43 l0 x4_1).f0))).setCell ⟨gb109, 1, none⟩ (.int .i64 ((rd_T43 l0 x4_1).f1))).setCell ⟨gb109, 2, none⟩ (.slice A108_2 ((rd_T43 l0 x4_1).f2).length c108_2)).setCell ⟨gb109, 3, none⟩ (.bool ((rd_T43 l0 x4_1).f3)))).cell? _ = some _ from hx112_2)); (try have hy112_3 := fun (n_ : Nat) => (show ((((((w14.drewN n_).setCell ⟨gb109, 0, none⟩ (.int .i64 ((rd_T43 l0 x4_1).f0))).setCell ⟨gb109, 1, none⟩ (.int .i64 ((rd_T43 l0 x4_1).f1))).setCell ⟨gb109, 2, none⟩ (.slice A108_2 ((rd_T43 l0 x4_1).f2).length c108_2)).setCell ⟨gb109, 3, none⟩ (.bool ((rd_T43 l0 x4_1).f3)))).cell? _ = some _ from hx112_3)); clear hn112_0; clear hn112_1; clear hn112_2; clear hn112_3; replace p112 := eq_true p112; replace q112 := eq_true q112)))
           go_ret
           exact ⟨by first | rfl | (simp [errW_none, errW_some] <;> rfl) | (simp [*, errW_none, errW_some] <;> rfl), by repeat (first | (with_reducible first | exact HB.out | apply bal | apply pdn | apply bd1 | refine bst ?_ GE109.out) | exact HB.out)⟩
         ·rw [if_neg c10] at H
          exact absurd H (by simp)
        ·replace c9 := Bool.eq_false_iff.mpr c9
         subst c9
         have H1 : (some false) = some r := by rw [if_neg (show ¬ (false = true) by decide)] at H; exact H
         clear H
         have H := H1
         clear H1
         obtain rfl := Option.some.inj H
         have p108 : 0 ≤ (x4_1 : Int) := of_decide_eq_true (by first | (with_reducible assumption) | assumption)
         have q108 : x4_1 < (l0.length : Int) := of_decide_eq_true (by first | (with_reducible assumption) | assumption)
         obtain ⟨ad108, A108_2, c108_2, e108, hx108_0, hx108_1, hx108_2, hx108_3, hl108_2, hi108_2⟩ := at_T43 HR0.out x4_1 p108 q108
         cases e108
         replace hx108_0 := (HB.out.cell (blc w _ hx108_0)).trans hx108_0
         replace hx108_1 := (HB.out.cell (blc w _ hx108_1)).trans hx108_1
         replace hx108_2 := (HB.out.cell (blc w _ hx108_2)).trans hx108_2
         replace hx108_3 := (HB.out.cell (blc w _ hx108_3)).trans hx108_3
         have HR108_2 := am hi108_2
         have HC108_2 := am hl108_2
         clear hi108_2 hl108_2
         replace p108 := eq_true p108
         replace q108 := eq_true q108
         go_wp2_with (first | ((with_reducible refine gate_dst (N := 5) rfl ?_); (try (refine gate_guard (by rfl) ?_; dsimp only)); refine box_event ?hg (N := 5) ?hd (cs := #[.int .i64 0, .int .i64 0, .slice none 0 0, .bool false]) (t := 43) ?hr ?_; (case hd => rfl); (case hg => rfl); (case hr => first | (go_simp; done) | (go_simp; rfl)); intro gb109 hg w16 hbox hb; have n0_ := am (below_step (by repeat (first | (with_reducible first | exact HB.out | apply bal | apply pdn | apply bd1) | exact HB.out)) hb); have n1_ := am (hbox); have n2_ := am ((by rw [hg]; exact (below_size (by repeat (first | (with_reducible first | exact HB.out | apply bal | apply pdn | apply bd1) | exact HB.out))) : w.heap.size ≤ gb109)); have n3_ := am ((by rw [hg]; exact (below_size (by repeat (first | (with_reducible first | exact HB.out | apply bal | apply pdn | apply bd1) | exact HB.out))) : w.heap.size ≤ gb109)); clear HB; have HB := n0_; have BK109 := n1_; have GW109 := n2_; have GE109 := n3_; clear n0_ n1_ n2_ n3_; clear hb hbox hg; have hcz17_0 : w16.cell? ⟨gb109, 0, none⟩ = some (.int .i64 0) := (kce BK109.out 0).trans rfl; have hcz17_1 : w16.cell? ⟨gb109, 1, none⟩ = some (.int .i64 0) := (kce BK109.out 1).trans rfl; have hcz17_2 : w16.cell? ⟨gb109, 2, none⟩ = some (.slice none 0 0) := (kce BK109.out 2).trans rfl; have hcz17_3 : w16.cell? ⟨gb109, 3, none⟩ = some (.bool false) := (kce BK109.out 3).trans rfl; have hfz17_0 := kfr BK109.out 0; have hfz17_1 := kfr BK109.out 1; have hfz17_2 := kfr BK109.out 2; have hfz17_3 := kfr BK109.out 3) | (go_at_call 65; (with_reducible refine (spec_l00In.calls ((rd_T43 l0 x4_1).f1) ((rd_T43 l0 x4_1).f0) 60 true _ A6.out).mono ?_); rintro e w' ⟨rfl, ⟨nd, rfl⟩⟩; (try first | exact ⟨rfl, _, World.drewN_drewN _ _ _⟩ | exact ⟨rfl, _, Eq.trans (World.drewN_drewN _ _ _) (congrArg (World.drewN _) (Nat.add_assoc _ _ _))⟩)) | (go_at_call 46; (with_reducible refine (spec_l12Ok.calls k1 _ _ ((rd_T43 l0 x4_1).f2) false _ ?side1 ?side2 A8.out).mono ?_); (case side1 => exact Kd.C_below HR108_2.out (by repeat (first | (with_reducible first | exact HB.out | apply bal | apply pdn | apply bd1 | refine bst ?_ GE109.out) | exact HB.out))); (case side2 => exact HC108_2.out); rintro e w' ⟨rfl, ⟨nd, rfl⟩⟩; (try first | exact ⟨rfl, _, World.drewN_drewN _ _ _⟩ | exact ⟨rfl, _, Eq.trans (World.drewN_drewN _ _ _) (congrArg (World.drewN _) (Nat.add_assoc _ _ _))⟩)))
         repeat (go_quiet (first | ((with_reducible refine gate_dst (N := 5) rfl ?_); (try (refine gate_guard (by rfl) ?_; dsimp only)); refine box_event ?hg (N := 5) ?hd (cs := #[.int .i64 0, .int .i64 0, .slice none 0 0, .bool false]) (t := 43) ?hr ?_; (case hd => rfl); (case hg => rfl); (case hr => first | (go_simp; done) | (go_simp; rfl)); intro gb109 hg w16 hbox hb; have n0_ := am (below_step (by repeat (first | (with_reducible first | exact HB.out | apply bal | apply pdn | apply bd1) | exact HB.out)) hb); have n1_ := am (hbox); have n2_ := am ((by rw [hg]; exact (below_size (by repeat (first | (with_reducible first | exact HB.out | apply bal | apply pdn | apply bd1) | exact HB.out))) : w.heap.size ≤ gb109)); have n3_ := am ((by rw [hg]; exact (below_size (by repeat (first | (with_reducible first | exact HB.out | apply bal | apply pdn | apply bd1) | exact HB.out))) : w.heap.size ≤ gb109)); clear HB; have HB := n0_; have BK109 := n1_; have GW109 := n2_; have GE109 := n3_; clear n0_ n1_ n2_ n3_; clear hb hbox hg; have hcz17_0 : w16.cell? ⟨gb109, 0, none⟩ = some (.int .i64 0) := (kce BK109.out 0).trans rfl; have hcz17_1 : w16.cell? ⟨gb109, 1, none⟩ = some (.int .i64 0) := (kce BK109.out 1).trans rfl; have hcz17_2 : w16.cell? ⟨gb109, 2, none⟩ = some (.slice none 0 0) := (kce BK109.out 2).trans rfl; have hcz17_3 : w16.cell? ⟨gb109, 3, none⟩ = some (.bool false) := (kce BK109.out 3).trans rfl; have hfz17_0 := kfr BK109.out 0; have hfz17_1 := kfr BK109.out 1; have hfz17_2 := kfr BK109.out 2; have hfz17_3 := kfr BK109.out 3) | (go_at_call 65; (with_reducible refine (spec_l00In.calls ((rd_T43 l0 x4_1).f1) ((rd_T43 l0 x4_1).f0) 60 true _ A6.out).mono ?_); rintro e w' ⟨rfl, ⟨nd, rfl⟩⟩; (try first | exact ⟨rfl, _, World.drewN_drewN _ _ _⟩ | exact ⟨rfl, _, Eq.trans (World.drewN_drewN _ _ _) (congrArg (World.drewN _) (Nat.add_assoc _ _ _))⟩)) | (go_at_call 46; (with_reducible refine (spec_l12Ok.calls k1 _ _ ((rd_T43 l0 x4_1).f2) false _ ?side1 ?side2 A8.out).mono ?_); (case side1 => exact Kd.C_below HR108_2.out (by repeat (first | (with_reducible first | exact HB.out | apply bal | apply pdn | apply bd1 | refine bst ?_ GE109.out) | exact HB.out))); (case side2 => exact HC108_2.out); rintro e w' ⟨rfl, ⟨nd, rfl⟩⟩; (try first | exact ⟨rfl, _, World.drewN_drewN _ _ _⟩ | exact ⟨rfl, _, Eq.trans (World.drewN_drewN _ _ _) (congrArg (World.drewN _) (Nat.add_assoc _ _ _))⟩))); try go_wp2_with (first | ((with_reducible refine gate_dst (N := 5) rfl ?_); (try (refine gate_guard (by rfl) ?_; dsimp only)); refine box_event ?hg (N := 5) ?hd (cs := #[.int .i64 0, .int .i64 0, .slice none 0 0, .bool false]) (t := 43) ?hr ?_; (case hd => rfl); (case hg => rfl); (case hr => first | (go_simp; done) | (go_simp; rfl)); intro gb109 hg w16 hbox hb; have n0_ := am (below_step (by repeat (first | (with_reducible first | exact HB.out | apply bal | apply pdn | apply bd1) | exact HB.out)) hb); have n1_ := am (hbox); have n2_ := am ((by rw [hg]; exact (below_size (by repeat (first | (with_reducible first | exact HB.out | apply bal | apply pdn | apply bd1) | exact HB.out))) : w.heap.size ≤ gb109)); have n3_ := am ((by rw [hg]; exact (below_size (by repeat (first | (with_reducible first | exact HB.out | apply bal | apply pdn | apply bd1) | exact HB.out))) : w.heap.size ≤ gb109)); clear HB; have HB := n0_; have BK109 := n1_; have GW109 := n2_; have GE109 := n3_; clear n0_ n1_ n2_ n3_; clear hb hbox hg; have hcz17_0 : w16.cell? ⟨gb109, 0, none⟩ = some (.int .i64 0) := (kce BK109.out 0).trans rfl; have hcz17_1 : w16.cell? ⟨gb109, 1, none⟩ = some (.int .i64 0) := (kce BK109.out 1).trans rfl; have hcz17_2 : w16.cell? ⟨gb109, 2, none⟩ = some (.slice none 0 0) := (kce BK109.out 2).trans rfl; have hcz17_3 : w16.cell? ⟨gb109, 3, none⟩ = some (.bool false) := (kce BK109.out 3).trans rfl; have hfz17_0 := kfr BK109.out 0; have hfz17_1 := kfr BK109.out 1; have hfz17_2 := kfr BK109.out 2; have hfz17_3 := kfr BK109.out 3) | (go_at_call 65; (with_reducible refine (spec_l00In.calls ((rd_T43 l0 x4_1).f1) ((rd_T43 l0 x4_1).f0) 60 true _ A6.out).mono ?_); rintro e w' ⟨rfl, ⟨nd, rfl⟩⟩; (try first | exact ⟨rfl, _, World.drewN_drewN _ _ _⟩ | exact ⟨rfl, _, Eq.trans (World.drewN_drewN _ _ _) (congrArg (World.drewN _) (Nat.add_assoc _ _ _))⟩)) | (go_at_call 46; (with_reducible refine (spec_l12Ok.calls k1 _ _ ((rd_T43 l0 x4_1).f2) false _ ?side1 ?side2 A8.out).mono ?_); (case side1 => exact Kd.C_below HR108_2.out (by repeat (first | (with_reducible first | exact HB.out | apply bal | apply pdn | apply bd1 | refine bst ?_ GE109.out) | exact HB.out))); (case side2 => exact HC108_2.out); rintro e w' ⟨rfl, ⟨nd, rfl⟩⟩; (try first | exact ⟨rfl, _, World.drewN_drewN _ _ _⟩ | exact ⟨rfl, _, Eq.trans (World.drewN_drewN _ _ _) (congrArg (World.drewN _) (Nat.add_assoc _ _ _))⟩))))
         go_ret
         exact ⟨by first | rfl | (simp [errW_none, errW_some] <;> rfl) | (simp [*, errW_none, errW_some] <;> rfl), by repeat (first | (with_reducible first | exact HB.out | apply bal | apply pdn | apply bd1 | refine bst ?_ GE109.out) | exact HB.out)⟩
       ·replace c7 := Bool.eq_false_iff.mpr c7
        subst c7
        have H1 : (some false) = some r := by rw [if_neg (show ¬ (false = true) by decide)] at H; exact H
        clear H
        have H := H1
        clear H1
        obtain rfl := Option.some.inj H
        have p108 : 0 ≤ (x4_1 : Int) := of_decide_eq_true (by first | (with_reducible assumption) | assumption)
        have q108 : x4_1 < (l0.length : Int) := of_decide_eq_true (by first | (with_reducible assumption) | assumption)
        obtain ⟨ad108, A108_2, c108_2, e108, hx108_0, hx108_1, hx108_2, hx108_3, hl108_2, hi108_2⟩ := at_T43 HR0.out x4_1 p108 q108
        cases e108
        replace hx108_0 := (HB.out.cell (blc w _ hx108_0)).trans hx108_0
        replace hx108_1 := (HB.out.cell (blc w _ hx108_1)).trans hx108_1
        replace hx108_2 := (HB.out.cell (blc w _ hx108_2)).trans hx108_2
        replace hx108_3 := (HB.out.cell (blc w _ hx108_3)).trans hx108_3
        have HR108_2 := am hi108_2
        have HC108_2 := am hl108_2
        clear hi108_2 hl108_2
        replace p108 := eq_true p108
        replace q108 := eq_true q108
        go_wp2_with (first | ((with_reducible refine gate_dst (N := 5) rfl ?_); (try (refine gate_guard (by rfl) ?_; dsimp only)); refine box_event ?hg (N := 5) ?hd (cs := #[.int .i64 0, .int .i64 0, .slice none 0 0, .bool false]) (t := 43) ?hr ?_; (case hd => rfl); (case hg => rfl); (case hr => first | (go_simp; done) | (go_simp; rfl)); intro gb109 hg w18 hbox hb; have n0_ := am (below_step (by repeat (first | (with_reducible first | exact HB.out | apply bal | apply pdn | apply bd1) | exact HB.out)) hb); have n1_ := am (hbox); have n2_ := am ((by rw [hg]; exact (below_size (by repeat (first | (with_reducible first | exact HB.out | apply bal | apply pdn | apply bd1) | exact HB.out))) : w.heap.size ≤ gb109)); have n3_ := am ((by rw [hg]; exact (below_size (by repeat (first | (with_reducible first | exact HB.out | apply bal | apply pdn | apply bd1) | exact HB.out))) : w.heap.size ≤ gb109)); clear HB; have HB := n0_; have BK109 := n1_; have GW109 := n2_; have GE109 := n3_; clear n0_ n1_ n2_ n3_; clear hb hbox hg; have hcz19_0 : w18.cell? ⟨gb109, 0, none⟩ = some (.int .i64 0) := (kce BK109.out 0).trans rfl; have hcz19_1 : w18.cell? ⟨gb109, 1, none⟩ = some (.int .i64 0) := (kce BK109.out 1).trans rfl; have hcz19_2 : w18.cell? ⟨gb109, 2, none⟩ = some (.slice none 0 0) := (kce BK109.out 2).trans rfl; have hcz19_3 : w18.cell? ⟨gb109, 3, none⟩ = some (.bool false) := (kce BK109.out 3).trans rfl; have hfz19_0 := kfr BK109.out 0; have hfz19_1 := kfr BK109.out 1; have hfz19_2 := kfr BK109.out 2; have hfz19_3 := kfr BK109.out 3) | (go_at_call 65; (with_reducible refine (spec_l00In.calls ((rd_T43 l0 x4_1).f1) ((rd_T43 l0 x4_1).f0) 60 false _ A6.out).mono ?_); rintro e w' ⟨rfl, ⟨nd, rfl⟩⟩; (try first | exact ⟨rfl, _, World.drewN_drewN _ _ _⟩ | exact ⟨rfl, _, Eq.trans (World.drewN_drewN _ _ _) (congrArg (World.drewN _) (Nat.add_assoc _ _ _))⟩)))
        repeat (go_quiet (first | ((with_reducible refine gate_dst (N := 5) rfl ?_); (try (refine gate_guard (by rfl) ?_; dsimp only)); refine box_event ?hg (N := 5) ?hd (cs := #[.int .i64 0, .int .i64 0, .slice none 0 0, .bool false]) (t := 43) ?hr ?_; (case hd => rfl); (case hg => rfl); (case hr => first | (go_simp; done) | (go_simp; rfl)); intro gb109 hg w18 hbox hb; have n0_ := am (below_step (by repeat (first | (with_reducible first | exact HB.out | apply bal | apply pdn | apply bd1) | exact HB.out)) hb); have n1_ := am (hbox); have n2_ := am ((by rw [hg]; exact (below_size (by repeat (first | (with_reducible first | exact HB.out | apply bal | apply pdn | apply bd1) | exact HB.out))) : w.heap.size ≤ gb109)); have n3_ := am ((by rw [hg]; exact (below_size (by repeat (first | (with_reducible first | exact HB.out | apply bal | apply pdn | apply bd1) | exact HB.out))) : w.heap.size ≤ gb109)); clear HB; have HB := n0_; have BK109 := n1_; have GW109 := n2_; have GE109 := n3_; clear n0_ n1_ n2_ n3_; clear hb hbox hg; have hcz19_0 : w18.cell? ⟨gb109, 0, none⟩ = some (.int .i64 0) := (kce BK109.out 0).trans rfl; have hcz19_1 : w18.cell? ⟨gb109, 1, none⟩ = some (.int .i64 0) := (kce BK109.out 1).trans rfl; have hcz19_2 : w18.cell? ⟨gb109, 2, none⟩ = some (.slice none 0 0) := (kce BK109.out 2).trans rfl; have hcz19_3 : w18.cell? ⟨gb109, 3, none⟩ = some (.bool false) := (kce BK109.out 3).trans rfl; have hfz19_0 := kfr BK109.out 0; have hfz19_1 := kfr BK109.out 1; have hfz19_2 := kfr BK109.out 2; have hfz19_3 := kfr BK109.out 3) | (go_at_call 65; (with_reducible refine (spec_l00In.calls ((rd_T43 l0 x4_1).f1) ((rd_T43 l0 x4_1).f0) 60 false _ A6.out).mono ?_); rintro e w' ⟨rfl, ⟨nd, rfl⟩⟩; (try first | exact ⟨rfl, _, World.drewN_drewN _ _ _⟩ | exact ⟨rfl, _, Eq.trans (World.drewN_drewN _ _ _) (congrArg (World.drewN _) (Nat.add_assoc _ _ _))⟩))); try go_wp2_with (first | ((with_reducible refine gate_dst (N := 5) rfl ?_); (try (refine gate_guard (by rfl) ?_; dsimp only)); refine box_event ?hg (N := 5) ?hd (cs := #[.int .i64 0, .int .i64 0, .slice none 0 0, .bool false]) (t := 43) ?hr ?_; (case hd => rfl); (case hg => rfl); (case hr => first | (go_simp; done) | (go_simp; rfl)); intro gb109 hg w18 hbox hb; have n0_ := am (below_step (by repeat (first | (with_reducible first | exact HB.out | apply bal | apply pdn | apply bd1) | exact HB.out)) hb); have n1_ := am (hbox); have n2_ := am ((by rw [hg]; exact (below_size (by repeat (first | (with_reducible first | exact HB.out | apply bal | apply pdn | apply bd1) | exact HB.out))) : w.heap.size ≤ gb109)); have n3_ := am ((by rw [hg]; exact (below_size (by repeat (first | (with_reducible first | exact HB.out | apply bal | apply pdn | apply bd1) | exact HB.out))) : w.heap.size ≤ gb109)); clear HB; have HB := n0_; have BK109 := n1_; have GW109 := n2_; have GE109 := n3_; clear n0_ n1_ n2_ n3_; clear hb hbox hg; have hcz19_0 : w18.cell? ⟨gb109, 0, none⟩ = some (.int .i64 0) := (kce BK109.out 0).trans rfl; have hcz19_1 : w18.cell? ⟨gb109, 1, none⟩ = some (.int .i64 0) := (kce BK109.out 1).trans rfl; have hcz19_2 : w18.cell? ⟨gb109, 2, none⟩ = some (.slice none 0 0) := (kce BK109.out 2).trans rfl; have hcz19_3 : w18.cell? ⟨gb109, 3, none⟩ = some (.bool false) := (kce BK109.out 3).trans rfl; have hfz19_0 := kfr BK109.out 0; have hfz19_1 := kfr BK109.out 1; have hfz19_2 := kfr BK109.out 2; have hfz19_3 := kfr BK109.out 3) | (go_at_call 65; (with_reducible refine (spec_l00In.calls ((rd_T43 l0 x4_1).f1) ((rd_T43 l0 x4_1).f0) 60 false _ A6.out).mono ?_); rintro e w' ⟨rfl, ⟨nd, rfl⟩⟩; (try first | exact ⟨rfl, _, World.drewN_drewN _ _ _⟩ | exact ⟨rfl, _, Eq.trans (World.drewN_drewN _ _ _) (congrArg (World.drewN _) (Nat.add_assoc _ _ _))⟩))))
        go_ret
        exact ⟨by first | rfl | (simp [errW_none, errW_some] <;> rfl) | (simp [*, errW_none, errW_some] <;> rfl), by repeat (first | (with_reducible first | exact HB.out | apply bal | apply pdn | apply bd1 | refine bst ?_ GE109.out) | exact HB.out)⟩
      ·rw [if_neg c5] at H
       have c5b0 : (((rd_T43 l0 x4_1).f0) == x3_1) = false := beq_eq_false_iff_ne.mpr c5
       have c5b1 : (((rd_T43 l0 x4_1).f0) != x3_1) = true := bne_iff_ne.mpr c5
       obtain rfl := Option.some.inj H
       have p108 : 0 ≤ (x4_1 : Int) := of_decide_eq_true (by first | (with_reducible assumption) | assumption)
       have q108 : x4_1 < (l0.length : Int) := of_decide_eq_true (by first | (with_reducible assumption) | assumption)
       obtain ⟨ad108, A108_2, c108_2, e108, hx108_0, hx108_1, hx108_2, hx108_3, hl108_2, hi108_2⟩ := at_T43 HR0.out x4_1 p108 q108
       cases e108
       replace hx108_0 := (HB.out.cell (blc w _ hx108_0)).trans hx108_0
       replace hx108_1 := (HB.out.cell (blc w _ hx108_1)).trans hx108_1
       replace hx108_2 := (HB.out.cell (blc w _ hx108_2)).trans hx108_2
       replace hx108_3 := (HB.out.cell (blc w _ hx108_3)).trans hx108_3
       have HR108_2 := am hi108_2
       have HC108_2 := am hl108_2
       clear hi108_2 hl108_2
       replace p108 := eq_true p108
       replace q108 := eq_true q108
       go_wp2_with (first | ((with_reducible refine gate_dst (N := 5) rfl ?_); (try (refine gate_guard (by rfl) ?_; dsimp only)); refine box_event ?hg (N := 5) ?hd (cs := #[.int .i64 0, .int .i64 0, .slice none 0 0, .bool false]) (t := 43) ?hr ?_; (case hd => rfl); (case hg => rfl); (case hr => first | (go_simp; done) | (go_simp; rfl)); intro gb109 hg w20 hbox hb; have n0_ := am (below_step (by repeat (first | (with_reducible first | exact HB.out | apply bal | apply pdn | apply bd1) | exact HB.out)) hb); have n1_ := am (hbox); have n2_ := am ((by rw [hg]; exact (below_size (by repeat (first | (with_reducible first | exact HB.out | apply bal | apply pdn | apply bd1) | exact HB.out))) : w.heap.size ≤ gb109)); have n3_ := am ((by rw [hg]; exact (below_size (by repeat (first | (with_reducible first | exact HB.out | apply bal | apply pdn | apply bd1) | exact HB.out))) : w.heap.size ≤ gb109)); clear HB; have HB := n0_; have BK109 := n1_; have GW109 := n2_; have GE109 := n3_; clear n0_ n1_ n2_ n3_; clear hb hbox hg; have hcz21_0 : w20.cell? ⟨gb109, 0, none⟩ = some (.int .i64 0) := (kce BK109.out 0).trans rfl; have hcz21_1 : w20.cell? ⟨gb109, 1, none⟩ = some (.int .i64 0) := (kce BK109.out 1).trans rfl; have hcz21_2 : w20.cell? ⟨gb109, 2, none⟩ = some (.slice none 0 0) := (kce BK109.out 2).trans rfl; have hcz21_3 : w20.cell? ⟨gb109, 3, none⟩ = some (.bool false) := (kce BK109.out 3).trans rfl; have hfz21_0 := kfr BK109.out 0; have hfz21_1 := kfr BK109.out 1; have hfz21_2 := kfr BK109.out 2; have hfz21_3 := kfr BK109.out 3))
       repeat (go_quiet (first | ((with_reducible refine gate_dst (N := 5) rfl ?_); (try (refine gate_guard (by rfl) ?_; dsimp only)); refine box_event ?hg (N := 5) ?hd (cs := #[.int .i64 0, .int .i64 0, .slice none 0 0, .bool false]) (t := 43) ?hr ?_; (case hd => rfl); (case hg => rfl); (case hr => first | (go_simp; done) | (go_simp; rfl)); intro gb109 hg w20 hbox hb; have n0_ := am (below_step (by repeat (first | (with_reducible first | exact HB.out | apply bal | apply pdn | apply bd1) | exact HB.out)) hb); have n1_ := am (hbox); have n2_ := am ((by rw [hg]; exact (below_size (by repeat (first | (with_reducible first | exact HB.out | apply bal | apply pdn | apply bd1) | exact HB.out))) : w.heap.size ≤ gb109)); have n3_ := am ((by rw [hg]; exact (below_size (by repeat (first | (with_reducible first | exact HB.out | apply bal | apply pdn | apply bd1) | exact HB.out))) : w.heap.size ≤ gb109)); clear HB; have HB := n0_; have BK109 := n1_; have GW109 := n2_; have GE109 := n3_; clear n0_ n1_ n2_ n3_; clear hb hbox hg; have hcz21_0 : w20.cell? ⟨gb109, 0, none⟩ = some (.int .i64 0) := (kce BK109.out 0).trans rfl; have hcz21_1 : w20.cell? ⟨gb109, 1, none⟩ = some (.int .i64 0) := (kce BK109.out 1).trans rfl; have hcz21_2 : w20.cell? ⟨gb109, 2, none⟩ = some (.slice none 0 0) := (kce BK109.out 2).trans rfl; have hcz21_3 : w20.cell? ⟨gb109, 3, none⟩ = some (.bool false) := (kce BK109.out 3).trans rfl; have hfz21_0 := kfr BK109.out 0; have hfz21_1 := kfr BK109.out 1; have hfz21_2 := kfr BK109.out 2; have hfz21_3 := kfr BK109.out 3)); try go_wp2_with (first | ((with_reducible refine gate_dst (N := 5) rfl ?_); (try (refine gate_guard (by rfl) ?_; dsimp only)); refine box_event ?hg (N := 5) ?hd (cs := #[.int .i64 0, .int .i64 0, .slice none 0 0, .bool false]) (t := 43) ?hr ?_; (case hd => rfl); (case hg => rfl); (case hr => first | (go_simp; done) | (go_simp; rfl)); intro gb109 hg w20 hbox hb; have n0_ := am (below_step (by repeat (first | (with_reducible first | exact HB.out | apply bal | apply pdn | apply bd1) | exact HB.out)) hb); have n1_ := am (hbox); have n2_ := am ((by rw [hg]; exact (below_size (by repeat (first | (with_reducible first | exact HB.out | apply bal | apply pdn | apply bd1) | exact HB.out))) : w.heap.size ≤ gb109)); have n3_ := am ((by rw [hg]; exact (below_size (by repeat (first | (with_reducible first | exact HB.out | apply bal | apply pdn | apply bd1) | exact HB.out))) : w.heap.size ≤ gb109)); clear HB; have HB := n0_; have BK109 := n1_; have GW109 := n2_; have GE109 := n3_; clear n0_ n1_ n2_ n3_; clear hb hbox hg; have hcz21_0 : w20.cell? ⟨gb109, 0, none⟩ = some (.int .i64 0) := (kce BK109.out 0).trans rfl; have hcz21_1 : w20.cell? ⟨gb109, 1, none⟩ = some (.int .i64 0) := (kce BK109.out 1).trans rfl; have hcz21_2 : w20.cell? ⟨gb109, 2, none⟩ = some (.slice none 0 0) := (kce BK109.out 2).trans rfl; have hcz21_3 : w20.cell? ⟨gb109, 3, none⟩ = some (.bool false) := (kce BK109.out 3).trans rfl; have hfz21_0 := kfr BK109.out 0; have hfz21_1 := kfr BK109.out 1; have hfz21_2 := kfr BK109.out 2; have hfz21_3 := kfr BK109.out 3)))
       go_ret
       exact ⟨by first | rfl | (simp [errW_none, errW_some] <;> rfl) | (simp [*, errW_none, errW_some] <;> rfl), by repeat (first | (with_reducible first | exact HB.out | apply bal | apply pdn | apply bd1 | refine bst ?_ GE109.out) | exact HB.out)⟩
     ·rw [if_neg c4] at H
      exact absurd H (by simp)
    ·rw [if_neg c3] at H
     have c3b0 : decide (x4_1 < (l0.length : Int)) = false := decide_eq_false c3
     clear c3
     obtain rfl := Option.some.inj H
     go_wp2
     repeat (go_quiet (fail); try go_wp2)
     go_ret
     exact ⟨by first | rfl | (simp [errW_none, errW_some] <;> rfl) | (simp [*, errW_none, errW_some] <;> rfl), by repeat (first | (with_reducible first | exact HB.out | apply bal | apply pdn | apply bd1) | exact HB.out)⟩

/-! ### spec_l00Rises: function 81 -/
def spec_l00Rises.l0 : Nat → List Int → Int → Int → Int → Option (Bool)
 | 0, _, _, _, _ => none
 | k + 1, x0, x1, x2, x7 => if x7 < (x0.length : Int) then (if 0 ≤ x7 then ((spec_l00In.f (rd x0 x7) x1 x2).bind fun t114 => (if t114 = true then (if x7 > 0 then (if 0 ≤ (wrap64 (x7 - 1)) then (if (wrap64 (x7 - 1)) < (x0.length : Int) then (if (rd x0 (wrap64 (x7 - 1))) ≥ (rd x0 x7) then (some false) else (spec_l00Rises.l0 k x0 x1 x2 (wrap64 (x7 + 1)))) else (none)) else (none)) else (spec_l00Rises.l0 k x0 x1 x2 (wrap64 (x7 + 1)))) else (some false))) else (none)) else (some true)
def spec_l00Rises.f (k : Nat) (l0 : List Int) (a1 : Int) (a2 : Int) : Option (Bool) := spec_l00Rises.l0 k l0 a1 a2 0
theorem spec_l00Rises.mono_l : ∀ k, (∀ y0 y1 y2 y3, LeO (spec_l00Rises.l0 k y0 y1 y2 y3) (spec_l00Rises.l0 (k + 1) y0 y1 y2 y3))
 | 0 => fun _ _ _ _ r h => by simp [spec_l00Rises.l0] at h
 | k + 1 => by
  have ih0 := spec_l00Rises.mono_l k
  ·intro y0 y1 y2 y3
   unfold spec_l00Rises.l0
   repeat' first
   | (with_reducible exact ih0 _ _ _ _)
   | (with_reducible exact LeO.refl _)
   | (with_reducible exact LeO.none _)
   | (with_reducible refine LeO.ite ?_ ?_)
   | (with_reducible refine LeO.bind ?_ (fun _ => ?_))
   | exact ih0 _ _ _ _
   | exact LeO.none _
   | refine LeO.ite ?_ ?_
   | refine LeO.bind ?_ (fun _ => ?_)
theorem spec_l00Rises.mono : ∀ a0 a1 a2 k, LeO (spec_l00Rises.f k a0 a1 a2) (spec_l00Rises.f (k + 1) a0 a1 a2) := by
 intro a0 a1 a2 k
 have ih0 := spec_l00Rises.mono_l k
 unfold spec_l00Rises.f
 repeat' first
   | (with_reducible exact ih0 _ _ _ _)
   | (with_reducible exact LeO.refl _)
   | (with_reducible exact LeO.none _)
   | (with_reducible refine LeO.ite ?_ ?_)
   | (with_reducible refine LeO.bind ?_ (fun _ => ?_))
   | exact ih0 _ _ _ _
   | exact LeO.none _
   | refine LeO.ite ?_ ?_
   | refine LeO.bind ?_ (fun _ => ?_)
set_option maxHeartbeats 8000000 in
set_option maxRecDepth 100000 in
theorem spec_l00Rises.calls (k : Nat) (A0 : Option Addr) (c0 : Nat) (l0 : List Int) (a1 : Int) (a2 : Int) (r : Bool) (w : World) (hr0 : Kd.C (Kd.int .i64) w A0 l0.length l0) (hc0 : l0.length ≤ c0) (h : spec_l00Rises.f k l0 a1 a2 = some r) :
  Calls Try.prog 81 #[.slice A0 l0.length c0, .int .i64 a1, .int .i64 a2] w fun e w' => e = .returned (.bool r) ∧ Drawn0 w w' := by
 have HR0 := am hr0
 have HC0 := am hc0
 clear hr0 hc0
 have H : (spec_l00Rises.l0 k l0 a1 a2 0) = some r := h
 clear h
 have H' := am H
 clear H
 go_enter Try.func81, Try.ntmps81
 go_wp2
 repeat (go_quiet (fail); try go_wp2)
 go_loopg [7] k (fun kq v7 w' => ∃ (x7_1 : Int), v7 = .int .i64 x7_1 ∧ Aside0 (spec_l00Rises.l0 kq l0 a1 a2 x7_1 = some r) ∧ Aside0 (kq ≤ k) ∧ Drawn0 w w')
 case atStart => exact ⟨(0), (by first | rfl | (simp; done) | (simp [*]; done)), H', ⟨Nat.le_refl _⟩, by repeat (first | exact Drawn0.refl _ | apply Drawn0.step)⟩
 case round =>
  clear H'
  obtain ⟨x7_1, rfl, HA, HK1, ⟨m1, rfl⟩⟩ := hrel
  cases gk with
  | zero => exact absurd HA.out (by simp [spec_l00Rises.l0])
  | succ k1 =>
   have H := HA.out
   clear HA
   simp only [spec_l00Rises.l0] at H
   by_cases c4 : x7_1 < (l0.length : Int)
   ·rw [if_pos c4] at H
    have c4b0 : decide (x7_1 < (l0.length : Int)) = true := decide_eq_true c4
    clear c4
    by_cases c5 : 0 ≤ x7_1
    ·rw [if_pos c5] at H
     have c5b0 : decide (0 ≤ x7_1) = true := decide_eq_true c5
     clear c5
     replace H := Option.bind_eq_some_iff.mp H
     obtain ⟨t114, A60, H⟩ := H
     replace H : (if t114 = true then (if x7_1 > 0 then (if 0 ≤ (wrap64 (x7_1 - 1)) then (if (wrap64 (x7_1 - 1)) < (l0.length : Int) then (if (rd l0 (wrap64 (x7_1 - 1))) ≥ (rd l0 x7_1) then (some false) else (spec_l00Rises.l0 k1 l0 a1 a2 (wrap64 (x7_1 + 1)))) else (none)) else (none)) else (spec_l00Rises.l0 k1 l0 a1 a2 (wrap64 (x7_1 + 1)))) else (some false)) = some r := H
     have A6 := am A60
     clear A60
     by_cases c7 : t114 = true
     ·subst c7
      have H1 : (if x7_1 > 0 then (if 0 ≤ (wrap64 (x7_1 - 1)) then (if (wrap64 (x7_1 - 1)) < (l0.length : Int) then (if (rd l0 (wrap64 (x7_1 - 1))) ≥ (rd l0 x7_1) then (some false) else (spec_l00Rises.l0 k1 l0 a1 a2 (wrap64 (x7_1 + 1)))) else (none)) else (none)) else (spec_l00Rises.l0 k1 l0 a1 a2 (wrap64 (x7_1 + 1)))) = some r := by rw [if_pos rfl] at H; exact H
      clear H
      have H := H1
      clear H1
      by_cases c8 : x7_1 > 0
      ·rw [if_pos c8] at H
       have c8b0 : decide (0 < x7_1) = true := decide_eq_true c8
       clear c8
       obtain ⟨ji9, hji9⟩ : ∃ j_ : Int, (wrap64 (x7_1 - 1)) = j_ := ⟨_, rfl⟩
       replace H : (if 0 ≤ (ji9) then (if (ji9) < (l0.length : Int) then (if (rd l0 (ji9)) ≥ (rd l0 x7_1) then (some false) else (spec_l00Rises.l0 k1 l0 a1 a2 (wrap64 (x7_1 + 1)))) else (none)) else (none)) = some r := by first | (rw [hji9] at H; exact H) | (simp only [hji9] at H ⊢; exact H)
       (try rw [hji9] at A6)
       have hji9w : (IntKind.i64.wrap (x7_1 - 1)) = ji9 := (i64_w _).trans hji9
       by_cases c10 : 0 ≤ (ji9)
       ·rw [if_pos c10] at H
        have c10b0 : decide (0 ≤ (ji9)) = true := decide_eq_true c10
        clear c10
        by_cases c11 : (ji9) < (l0.length : Int)
        ·rw [if_pos c11] at H
         have c11b0 : decide ((ji9) < (l0.length : Int)) = true := decide_eq_true c11
         clear c11
         by_cases c12 : (rd l0 (ji9)) ≥ (rd l0 x7_1)
         ·rw [if_pos c12] at H
          have c12b0 : decide ((rd l0 x7_1) ≤ (rd l0 (ji9))) = true := decide_eq_true c12
          clear c12
          obtain rfl := Option.some.inj H
          have p113 : 0 ≤ (x7_1 : Int) := of_decide_eq_true (by first | (with_reducible assumption) | assumption)
          have q113 : x7_1 < (l0.length : Int) := of_decide_eq_true (by first | (with_reducible assumption) | assumption)
          obtain ⟨ad113, e113, hx113_0⟩ := Kd.at_int HR0.out x7_1 p113 q113
          cases e113
          replace p113 := eq_true p113
          replace q113 := eq_true q113
          try (have p115 : 0 ≤ ((ji9) : Int) := of_decide_eq_true (by first | (with_reducible assumption) | assumption); have q115 : (ji9) < (l0.length : Int) := of_decide_eq_true (by first | (with_reducible assumption) | assumption); obtain ⟨ad115, e115, hx115_0⟩ := Kd.at_int HR0.out (ji9) p115 q115; obtain rfl : ad113 = ad115 := (by injection e115); replace p115 := eq_true p115; replace q115 := eq_true q115; have p116 : 0 ≤ (x7_1 : Int) := of_decide_eq_true (by first | (with_reducible assumption) | assumption); have q116 : x7_1 < (l0.length : Int) := of_decide_eq_true (by first | (with_reducible assumption) | assumption); obtain ⟨ad116, e116, hx116_0⟩ := Kd.at_int HR0.out x7_1 p116 q116; obtain rfl : ad113 = ad116 := (by injection e116); replace p116 := eq_true p116; replace q116 := eq_true q116)
          go_wp2_with (first | (go_at_call 65; (with_reducible refine (spec_l00In.calls (rd l0 x7_1) a1 a2 true _ A6.out).mono ?_); rintro e w' ⟨rfl, ⟨nd, rfl⟩⟩; (try first | exact ⟨rfl, _, World.drewN_drewN _ _ _⟩ | exact ⟨rfl, _, Eq.trans (World.drewN_drewN _ _ _) (congrArg (World.drewN _) (Nat.add_assoc _ _ _))⟩); have p115 : 0 ≤ ((ji9) : Int) := of_decide_eq_true (by first | (with_reducible assumption) | assumption); have q115 : (ji9) < (l0.length : Int) := of_decide_eq_true (by first | (with_reducible assumption) | assumption); obtain ⟨ad115, e115, hx115_0⟩ := Kd.at_int HR0.out (ji9) p115 q115; obtain rfl : ad113 = ad115 := (by injection e115); replace p115 := eq_true p115; replace q115 := eq_true q115; have p116 : 0 ≤ (x7_1 : Int) := of_decide_eq_true (by first | (with_reducible assumption) | assumption); have q116 : x7_1 < (l0.length : Int) := of_decide_eq_true (by first | (with_reducible assumption) | assumption); obtain ⟨ad116, e116, hx116_0⟩ := Kd.at_int HR0.out x7_1 p116 q116; obtain rfl : ad113 = ad116 := (by injection e116); replace p116 := eq_true p116; replace q116 := eq_true q116))
          first | (have hz_ := q116; clear hz_) | (have p115 : 0 ≤ ((ji9) : Int) := of_decide_eq_true (by first | (with_reducible assumption) | assumption); have q115 : (ji9) < (l0.length : Int) := of_decide_eq_true (by first | (with_reducible assumption) | assumption); obtain ⟨ad115, e115, hx115_0⟩ := Kd.at_int HR0.out (ji9) p115 q115; obtain rfl : ad113 = ad115 := (by injection e115); replace p115 := eq_true p115; replace q115 := eq_true q115; have p116 : 0 ≤ (x7_1 : Int) := of_decide_eq_true (by first | (with_reducible assumption) | assumption); have q116 : x7_1 < (l0.length : Int) := of_decide_eq_true (by first | (with_reducible assumption) | assumption); obtain ⟨ad116, e116, hx116_0⟩ := Kd.at_int HR0.out x7_1 p116 q116; obtain rfl : ad113 = ad116 := (by injection e116); replace p116 := eq_true p116; replace q116 := eq_true q116) | skip
          repeat (go_quiet (first | (go_at_call 65; (with_reducible refine (spec_l00In.calls (rd l0 x7_1) a1 a2 true _ A6.out).mono ?_); rintro e w' ⟨rfl, ⟨nd, rfl⟩⟩; (try first | exact ⟨rfl, _, World.drewN_drewN _ _ _⟩ | exact ⟨rfl, _, Eq.trans (World.drewN_drewN _ _ _) (congrArg (World.drewN _) (Nat.add_assoc _ _ _))⟩))); try go_wp2_with (first | (go_at_call 65; (with_reducible refine (spec_l00In.calls (rd l0 x7_1) a1 a2 true _ A6.out).mono ?_); rintro e w' ⟨rfl, ⟨nd, rfl⟩⟩; (try first | exact ⟨rfl, _, World.drewN_drewN _ _ _⟩ | exact ⟨rfl, _, Eq.trans (World.drewN_drewN _ _ _) (congrArg (World.drewN _) (Nat.add_assoc _ _ _))⟩); have p115 : 0 ≤ ((ji9) : Int) := of_decide_eq_true (by first | (with_reducible assumption) | assumption); have q115 : (ji9) < (l0.length : Int) := of_decide_eq_true (by first | (with_reducible assumption) | assumption); obtain ⟨ad115, e115, hx115_0⟩ := Kd.at_int HR0.out (ji9) p115 q115; obtain rfl : ad113 = ad115 := (by injection e115); replace p115 := eq_true p115; replace q115 := eq_true q115; have p116 : 0 ≤ (x7_1 : Int) := of_decide_eq_true (by first | (with_reducible assumption) | assumption); have q116 : x7_1 < (l0.length : Int) := of_decide_eq_true (by first | (with_reducible assumption) | assumption); obtain ⟨ad116, e116, hx116_0⟩ := Kd.at_int HR0.out x7_1 p116 q116; obtain rfl : ad113 = ad116 := (by injection e116); replace p116 := eq_true p116; replace q116 := eq_true q116)))
          go_ret
          exact ⟨by first | rfl | (simp; done) | (simp only [← hji9] <;> (first | rfl | simp)) | (simp [*]; done), by repeat (first | exact Drawn0.refl _ | apply Drawn0.step)⟩
         ·rw [if_neg c12] at H
          have c12b0 : decide ((rd l0 x7_1) ≤ (rd l0 (ji9))) = false := decide_eq_false c12
          clear c12
          have H' := am H
          clear H
          have p113 : 0 ≤ (x7_1 : Int) := of_decide_eq_true (by first | (with_reducible assumption) | assumption)
          have q113 : x7_1 < (l0.length : Int) := of_decide_eq_true (by first | (with_reducible assumption) | assumption)
          obtain ⟨ad113, e113, hx113_0⟩ := Kd.at_int HR0.out x7_1 p113 q113
          cases e113
          replace p113 := eq_true p113
          replace q113 := eq_true q113
          try (have p115 : 0 ≤ ((ji9) : Int) := of_decide_eq_true (by first | (with_reducible assumption) | assumption); have q115 : (ji9) < (l0.length : Int) := of_decide_eq_true (by first | (with_reducible assumption) | assumption); obtain ⟨ad115, e115, hx115_0⟩ := Kd.at_int HR0.out (ji9) p115 q115; obtain rfl : ad113 = ad115 := (by injection e115); replace p115 := eq_true p115; replace q115 := eq_true q115; have p116 : 0 ≤ (x7_1 : Int) := of_decide_eq_true (by first | (with_reducible assumption) | assumption); have q116 : x7_1 < (l0.length : Int) := of_decide_eq_true (by first | (with_reducible assumption) | assumption); obtain ⟨ad116, e116, hx116_0⟩ := Kd.at_int HR0.out x7_1 p116 q116; obtain rfl : ad113 = ad116 := (by injection e116); replace p116 := eq_true p116; replace q116 := eq_true q116)
          go_wp2_with (first | (go_at_call 65; (with_reducible refine (spec_l00In.calls (rd l0 x7_1) a1 a2 true _ A6.out).mono ?_); rintro e w' ⟨rfl, ⟨nd, rfl⟩⟩; (try first | exact ⟨rfl, _, World.drewN_drewN _ _ _⟩ | exact ⟨rfl, _, Eq.trans (World.drewN_drewN _ _ _) (congrArg (World.drewN _) (Nat.add_assoc _ _ _))⟩); have p115 : 0 ≤ ((ji9) : Int) := of_decide_eq_true (by first | (with_reducible assumption) | assumption); have q115 : (ji9) < (l0.length : Int) := of_decide_eq_true (by first | (with_reducible assumption) | assumption); obtain ⟨ad115, e115, hx115_0⟩ := Kd.at_int HR0.out (ji9) p115 q115; obtain rfl : ad113 = ad115 := (by injection e115); replace p115 := eq_true p115; replace q115 := eq_true q115; have p116 : 0 ≤ (x7_1 : Int) := of_decide_eq_true (by first | (with_reducible assumption) | assumption); have q116 : x7_1 < (l0.length : Int) := of_decide_eq_true (by first | (with_reducible assumption) | assumption); obtain ⟨ad116, e116, hx116_0⟩ := Kd.at_int HR0.out x7_1 p116 q116; obtain rfl : ad113 = ad116 := (by injection e116); replace p116 := eq_true p116; replace q116 := eq_true q116))
          first | (have hz_ := q116; clear hz_) | (have p115 : 0 ≤ ((ji9) : Int) := of_decide_eq_true (by first | (with_reducible assumption) | assumption); have q115 : (ji9) < (l0.length : Int) := of_decide_eq_true (by first | (with_reducible assumption) | assumption); obtain ⟨ad115, e115, hx115_0⟩ := Kd.at_int HR0.out (ji9) p115 q115; obtain rfl : ad113 = ad115 := (by injection e115); replace p115 := eq_true p115; replace q115 := eq_true q115; have p116 : 0 ≤ (x7_1 : Int) := of_decide_eq_true (by first | (with_reducible assumption) | assumption); have q116 : x7_1 < (l0.length : Int) := of_decide_eq_true (by first | (with_reducible assumption) | assumption); obtain ⟨ad116, e116, hx116_0⟩ := Kd.at_int HR0.out x7_1 p116 q116; obtain rfl : ad113 = ad116 := (by injection e116); replace p116 := eq_true p116; replace q116 := eq_true q116) | skip
          repeat (go_quiet (first | (go_at_call 65; (with_reducible refine (spec_l00In.calls (rd l0 x7_1) a1 a2 true _ A6.out).mono ?_); rintro e w' ⟨rfl, ⟨nd, rfl⟩⟩; (try first | exact ⟨rfl, _, World.drewN_drewN _ _ _⟩ | exact ⟨rfl, _, Eq.trans (World.drewN_drewN _ _ _) (congrArg (World.drewN _) (Nat.add_assoc _ _ _))⟩))); try go_wp2_with (first | (go_at_call 65; (with_reducible refine (spec_l00In.calls (rd l0 x7_1) a1 a2 true _ A6.out).mono ?_); rintro e w' ⟨rfl, ⟨nd, rfl⟩⟩; (try first | exact ⟨rfl, _, World.drewN_drewN _ _ _⟩ | exact ⟨rfl, _, Eq.trans (World.drewN_drewN _ _ _) (congrArg (World.drewN _) (Nat.add_assoc _ _ _))⟩); have p115 : 0 ≤ ((ji9) : Int) := of_decide_eq_true (by first | (with_reducible assumption) | assumption); have q115 : (ji9) < (l0.length : Int) := of_decide_eq_true (by first | (with_reducible assumption) | assumption); obtain ⟨ad115, e115, hx115_0⟩ := Kd.at_int HR0.out (ji9) p115 q115; obtain rfl : ad113 = ad115 := (by injection e115); replace p115 := eq_true p115; replace q115 := eq_true q115; have p116 : 0 ≤ (x7_1 : Int) := of_decide_eq_true (by first | (with_reducible assumption) | assumption); have q116 : x7_1 < (l0.length : Int) := of_decide_eq_true (by first | (with_reducible assumption) | assumption); obtain ⟨ad116, e116, hx116_0⟩ := Kd.at_int HR0.out x7_1 p116 q116; obtain rfl : ad113 = ad116 := (by injection e116); replace p116 := eq_true p116; replace q116 := eq_true q116)))
          go_roundg k1
          case measure => have := HK1.out; omega
          case rel => exact ⟨(wrap64 (x7_1 + 1)), (by first | rfl | (simp; done) | (simp [*]; done)), H', ⟨by have := HK1.out; omega⟩, by repeat (first | exact Drawn0.refl _ | apply Drawn0.step)⟩
        ·rw [if_neg c11] at H
         exact absurd H (by simp)
       ·rw [if_neg c10] at H
        exact absurd H (by simp)
      ·rw [if_neg c8] at H
       have c8b0 : decide (0 < x7_1) = false := decide_eq_false c8
       clear c8
       have H' := am H
       clear H
       have p113 : 0 ≤ (x7_1 : Int) := of_decide_eq_true (by first | (with_reducible assumption) | assumption)
       have q113 : x7_1 < (l0.length : Int) := of_decide_eq_true (by first | (with_reducible assumption) | assumption)
       obtain ⟨ad113, e113, hx113_0⟩ := Kd.at_int HR0.out x7_1 p113 q113
       cases e113
       replace p113 := eq_true p113
       replace q113 := eq_true q113
       go_wp2_with (first | (go_at_call 65; (with_reducible refine (spec_l00In.calls (rd l0 x7_1) a1 a2 true _ A6.out).mono ?_); rintro e w' ⟨rfl, ⟨nd, rfl⟩⟩; (try first | exact ⟨rfl, _, World.drewN_drewN _ _ _⟩ | exact ⟨rfl, _, Eq.trans (World.drewN_drewN _ _ _) (congrArg (World.drewN _) (Nat.add_assoc _ _ _))⟩)))
       repeat (go_quiet (first | (go_at_call 65; (with_reducible refine (spec_l00In.calls (rd l0 x7_1) a1 a2 true _ A6.out).mono ?_); rintro e w' ⟨rfl, ⟨nd, rfl⟩⟩; (try first | exact ⟨rfl, _, World.drewN_drewN _ _ _⟩ | exact ⟨rfl, _, Eq.trans (World.drewN_drewN _ _ _) (congrArg (World.drewN _) (Nat.add_assoc _ _ _))⟩))); try go_wp2_with (first | (go_at_call 65; (with_reducible refine (spec_l00In.calls (rd l0 x7_1) a1 a2 true _ A6.out).mono ?_); rintro e w' ⟨rfl, ⟨nd, rfl⟩⟩; (try first | exact ⟨rfl, _, World.drewN_drewN _ _ _⟩ | exact ⟨rfl, _, Eq.trans (World.drewN_drewN _ _ _) (congrArg (World.drewN _) (Nat.add_assoc _ _ _))⟩))))
       go_roundg k1
       case measure => have := HK1.out; omega
       case rel => exact ⟨(wrap64 (x7_1 + 1)), (by first | rfl | (simp; done) | (simp [*]; done)), H', ⟨by have := HK1.out; omega⟩, by repeat (first | exact Drawn0.refl _ | apply Drawn0.step)⟩
     ·replace c7 := Bool.eq_false_iff.mpr c7
      subst c7
      have H1 : (some false) = some r := by rw [if_neg (show ¬ (false = true) by decide)] at H; exact H
      clear H
      have H := H1
      clear H1
      obtain rfl := Option.some.inj H
      have p113 : 0 ≤ (x7_1 : Int) := of_decide_eq_true (by first | (with_reducible assumption) | assumption)
      have q113 : x7_1 < (l0.length : Int) := of_decide_eq_true (by first | (with_reducible assumption) | assumption)
      obtain ⟨ad113, e113, hx113_0⟩ := Kd.at_int HR0.out x7_1 p113 q113
      cases e113
      replace p113 := eq_true p113
      replace q113 := eq_true q113
      go_wp2_with (first | (go_at_call 65; (with_reducible refine (spec_l00In.calls (rd l0 x7_1) a1 a2 false _ A6.out).mono ?_); rintro e w' ⟨rfl, ⟨nd, rfl⟩⟩; (try first | exact ⟨rfl, _, World.drewN_drewN _ _ _⟩ | exact ⟨rfl, _, Eq.trans (World.drewN_drewN _ _ _) (congrArg (World.drewN _) (Nat.add_assoc _ _ _))⟩)))
      repeat (go_quiet (first | (go_at_call 65; (with_reducible refine (spec_l00In.calls (rd l0 x7_1) a1 a2 false _ A6.out).mono ?_); rintro e w' ⟨rfl, ⟨nd, rfl⟩⟩; (try first | exact ⟨rfl, _, World.drewN_drewN _ _ _⟩ | exact ⟨rfl, _, Eq.trans (World.drewN_drewN _ _ _) (congrArg (World.drewN _) (Nat.add_assoc _ _ _))⟩))); try go_wp2_with (first | (go_at_call 65; (with_reducible refine (spec_l00In.calls (rd l0 x7_1) a1 a2 false _ A6.out).mono ?_); rintro e w' ⟨rfl, ⟨nd, rfl⟩⟩; (try first | exact ⟨rfl, _, World.drewN_drewN _ _ _⟩ | exact ⟨rfl, _, Eq.trans (World.drewN_drewN _ _ _) (congrArg (World.drewN _) (Nat.add_assoc _ _ _))⟩))))
      go_ret
      exact ⟨by first | rfl | (simp; done) | (simp [*]; done), by repeat (first | exact Drawn0.refl _ | apply Drawn0.step)⟩
    ·rw [if_neg c5] at H
     exact absurd H (by simp)
   ·rw [if_neg c4] at H
    have c4b0 : decide (x7_1 < (l0.length : Int)) = false := decide_eq_false c4
    clear c4
    obtain rfl := Option.some.inj H
    go_wp2
    repeat (go_quiet (fail); try go_wp2)
    go_ret
    exact ⟨by first | rfl | (simp; done) | (simp [*]; done), by repeat (first | exact Drawn0.refl _ | apply Drawn0.step)⟩

/-! ### spec_l13Nodes: function 61 -/
def spec_l13Nodes.f (k : Nat) (l0 : List Int) : Option (Bool) := (spec_l00Rises.f k l0 0 15).bind fun t117 => (some t117)
theorem spec_l13Nodes.mono : ∀ a0 k, LeO (spec_l13Nodes.f k a0) (spec_l13Nodes.f (k + 1) a0) := by
 intro a0 k
 unfold spec_l13Nodes.f
 repeat' first
   | (with_reducible exact spec_l00Rises.mono _ _ _ _)
   | (with_reducible exact LeO.refl _)
   | (with_reducible exact LeO.none _)
   | (with_reducible refine LeO.ite ?_ ?_)
   | (with_reducible refine LeO.bind ?_ (fun _ => ?_))
   | exact spec_l00Rises.mono _ _ _ _
   | exact LeO.none _
   | refine LeO.ite ?_ ?_
   | refine LeO.bind ?_ (fun _ => ?_)
set_option maxHeartbeats 8000000 in
set_option maxRecDepth 100000 in
theorem spec_l13Nodes.calls (k : Nat) (A0 : Option Addr) (c0 : Nat) (l0 : List Int) (r : Bool) (w : World) (hr0 : Kd.C (Kd.int .i64) w A0 l0.length l0) (hc0 : l0.length ≤ c0) (h : spec_l13Nodes.f k l0 = some r) :
  Calls Try.prog 61 #[.slice A0 l0.length c0] w fun e w' => e = .returned (.bool r) ∧ Drawn0 w w' := by
 have HR0 := am hr0
 have HC0 := am hc0
 clear hr0 hc0
 have H : ((spec_l00Rises.f k l0 0 15).bind fun t117 => (some t117)) = some r := h
 clear h
 replace H := Option.bind_eq_some_iff.mp H
 obtain ⟨t117, A20, H⟩ := H
 replace H : (some t117) = some r := H
 have A2 := am A20
 clear A20
 obtain rfl := Option.some.inj H
 go_enter Try.func61, Try.ntmps61
 go_wp2_with (first | ((with_reducible refine gate_callee (f := 81) rfl ?_); refine goesL_ (some 4) rfl rfl Try.func81 (by kernel_rfl) rfl #[.slice A0 l0.length c0, .int .i64 0, .int .i64 15] rfl (by (try simp only [mta, mco, mni]); first | done | rfl | (simp only [lnd, lnt]; rfl)) ?_; (with_reducible refine (spec_l00Rises.calls k _ _ l0 0 15 t117 _ ?side1 ?side2 A2.out).mono ?_); (case side1 => repeat (first | exact HR0.out | (with_reducible first | apply kca | apply kcn | apply kcd))); (case side2 => exact HC0.out); rintro e w' ⟨rfl, ⟨nd, rfl⟩⟩; refine ⟨_, rfl, ?_⟩))
 go_ret
 exact ⟨by first | rfl | (simp; done) | (simp [*]; done), by repeat (first | exact Drawn0.refl _ | apply Drawn0.step)⟩

end Go.Proofs.Ytfeaokelfbjcdaa.MFnHeard
