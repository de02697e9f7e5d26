-- Written by a program of this session (wip/tools/myprint.py) over the kit's print: it is not the kit's print.
import Derived.Test.YtfeaokelfbjcdaaExtra
import Derived.Test.YtfeaokelfbjcdaaMFnHeardx0
import Derived.Test.YtfeaokelfbjcdaaMFnHeardx3
import Derived.Test.YtfeaokelfbjcdaaMFnHeardx5
import Derived.Test.YtfeaokelfbjcdaaMFnHeardx6
import Derived.Test.YtfeaokelfbjcdaaMFnHeardx8
namespace Go.Proofs.Ytfeaokelfbjcdaa.MFnHeard
open Go.RowKit Go.Proofs.YtfeaokelfbjcdaaW.PrintWords Go.Proofs.YtfeaokelfbjcdaaW.PrintLast Go.Proofs.YtfeaokelfbjcdaaW.PrintMore
open List renaming setIfInBounds_toArray → sit, set_cons_zero → scz, set_cons_succ → scs, map_toArray → mta, map_cons → mco, map_nil → mni, length_drop → lnd, length_take → lnt
attribute [local go_sem] max2_int min2_int max_two min_two max_three min_three max_four min_four   -- for this text's walks alone
set_option linter.unusedVariables false
set_option linter.unusedSimpArgs false

/-! ### spec_DrawHeardEnough: function 44 -/
def spec_DrawHeardEnough.j0 : Nat → List (S43) → Int → Bool → List Int → Int → Int → Option ((List (S43)) × Int × Int × List Int)
 | 0, _, _, _, _, _, _ => none
 | k + 1, x7, x8, x19, x333000, x333001, x333002 => if x19 = true then ((spec_l00Src_pick.f x333000 x333001 x333002 (x7.length : Int)).bind fun bt341 => (if 0 ≤ bt341.1 then (if bt341.1 < (x7.length : Int) then ((spec_l00Src_among.f x333000 bt341.2.1 bt341.2.2 (([1, 1, 2, 2, 3, 0, 7, 8] : List Int))).bind fun bt348 => ((spec_l13Some.f k x333000 bt348.2.1 bt348.2.2).bind fun bt351 => (some (x7, bt348.1, (rd_T43 x7 bt341.1).f0, bt351.1)))) else (none)) else (none))) else ((spec_l00Src_among.f x333000 x333001 x333002 (([1, 1, 2, 2, 3, 0, 7, 8] : List Int))).bind fun bt359 => ((spec_l13Some.f k x333000 bt359.2.1 bt359.2.2).bind fun bt362 => (some (x7, bt359.1, x8, bt362.1))))
def spec_DrawHeardEnough.f (k : Nat) (l0 : List Int) : Option ((List (S43)) × Int × Int × List Int) := (spec_l00From.f l0).bind fun bt329 => ((spec_l13Bent.f k bt329.1 bt329.2.1 bt329.2.2).bind fun bt333 => (if (bt333.1.length : Int) > 0 then ((spec_l00Src_one.f bt329.1 bt333.2.1 bt333.2.2 2).bind fun bt338 => (spec_DrawHeardEnough.j0 k bt333.1 0 bt338.1 bt329.1 bt338.2.1 bt338.2.2)) else (spec_DrawHeardEnough.j0 k bt333.1 0 false bt329.1 bt333.2.1 bt333.2.2)))
theorem spec_DrawHeardEnough.mono_l : ∀ k, (∀ y0 y1 y2 y3 y4 y5, LeO (spec_DrawHeardEnough.j0 k y0 y1 y2 y3 y4 y5) (spec_DrawHeardEnough.j0 (k + 1) y0 y1 y2 y3 y4 y5))
 | 0 => fun _ _ _ _ _ _ r h => by simp [spec_DrawHeardEnough.j0] at h
 | k + 1 => by
  have ih0 := spec_DrawHeardEnough.mono_l k
  ·intro y0 y1 y2 y3 y4 y5
   unfold spec_DrawHeardEnough.j0
   repeat' first
   | (with_reducible exact ih0 _ _ _ _ _ _)
   | (with_reducible exact spec_l13Bent.mono _ _ _ _)
   | (with_reducible exact spec_l13Some.mono _ _ _ _)
   | (with_reducible exact LeO.refl _)
   | (with_reducible exact LeO.none _)
   | (with_reducible refine LeO.ite ?_ ?_)
   | (with_reducible refine LeO.bind ?_ (fun _ => ?_))
   | exact ih0 _ _ _ _ _ _
   | exact spec_l13Bent.mono _ _ _ _
   | exact spec_l13Some.mono _ _ _ _
   | exact LeO.none _
   | refine LeO.ite ?_ ?_
   | refine LeO.bind ?_ (fun _ => ?_)
theorem spec_DrawHeardEnough.mono : ∀ a0 k, LeO (spec_DrawHeardEnough.f k a0) (spec_DrawHeardEnough.f (k + 1) a0) := by
 intro a0 k
 have ih0 := spec_DrawHeardEnough.mono_l k
 unfold spec_DrawHeardEnough.f
 repeat' first
   | (with_reducible exact ih0 _ _ _ _ _ _)
   | (with_reducible exact spec_l13Bent.mono _ _ _ _)
   | (with_reducible exact spec_l13Some.mono _ _ _ _)
   | (with_reducible exact LeO.refl _)
   | (with_reducible exact LeO.none _)
   | (with_reducible refine LeO.ite ?_ ?_)
   | (with_reducible refine LeO.bind ?_ (fun _ => ?_))
   | exact ih0 _ _ _ _ _ _
   | exact spec_l13Bent.mono _ _ _ _
   | exact spec_l13Some.mono _ _ _ _
   | exact LeO.none _
   | refine LeO.ite ?_ ?_
   | refine LeO.bind ?_ (fun _ => ?_)
set_option maxHeartbeats 8000000 in
set_option maxRecDepth 100000 in
theorem spec_DrawHeardEnough.calls (k : Nat) (A0 : Option Addr) (c0 : Nat) (l0 : List Int) (r1 : List (S43)) (r2 : Int) (r3 : Int) (r4 : List Int) (w : World) (hr0 : Kd.C (Kd.int .u8) w A0 l0.length l0) (hc0 : l0.length ≤ c0) (h : spec_DrawHeardEnough.f k l0 = some (r1, r2, r3, r4)) :
  Calls Try.prog 44 #[.slice A0 l0.length c0] w fun e w' => ∃ v0_ v3_ : Value, e = .returned (.tuple #[v0_, .int .i64 r2, .int .i64 r3, v3_]) ∧ Kd.S k43 43 w' w.heap.size (fun k_ => some k_ ≠ (v3_ : Value).ownBlock) v0_ r1 ∧ Kd.R (Kd.int .i64) 2 w' w.heap.size (fun _ => True) v3_ r4 ∧ Below w.heap.size w w' := by
 have HR0 := am hr0
 have HC0 := am hc0
 clear hr0 hc0
 have HB := am (Below.refl w.heap.size w)
 have H : ((spec_l00From.f l0).bind fun bt329 => ((spec_l13Bent.f k bt329.1 bt329.2.1 bt329.2.2).bind fun bt333 => (if (bt333.1.length : Int) > 0 then ((spec_l00Src_one.f bt329.1 bt333.2.1 bt333.2.2 2).bind fun bt338 => (spec_DrawHeardEnough.j0 k bt333.1 0 bt338.1 bt329.1 bt338.2.1 bt338.2.2)) else (spec_DrawHeardEnough.j0 k bt333.1 0 false bt329.1 bt333.2.1 bt333.2.2)))) = some (r1, r2, r3, r4) := h
 clear h
 replace H := Option.bind_eq_some_iff.mp H
 obtain ⟨⟨t329, t330, t331⟩, A20, H⟩ := H
 replace H : ((spec_l13Bent.f k t329 t330 t331).bind fun bt333 => (if (bt333.1.length : Int) > 0 then ((spec_l00Src_one.f t329 bt333.2.1 bt333.2.2 2).bind fun bt338 => (spec_DrawHeardEnough.j0 k bt333.1 0 bt338.1 t329 bt338.2.1 bt338.2.2)) else (spec_DrawHeardEnough.j0 k bt333.1 0 false t329 bt333.2.1 bt333.2.2))) = some (r1, r2, r3, r4) := H
 have A2 := am A20
 clear A20
 replace H := Option.bind_eq_some_iff.mp H
 obtain ⟨⟨t333, t336, t337⟩, A30, H⟩ := H
 replace H : (if (t333.length : Int) > 0 then ((spec_l00Src_one.f t329 t336 t337 2).bind fun bt338 => (spec_DrawHeardEnough.j0 k t333 0 bt338.1 t329 bt338.2.1 bt338.2.2)) else (spec_DrawHeardEnough.j0 k t333 0 false t329 t336 t337)) = some (r1, r2, r3, r4) := H
 have A3 := am A30
 clear A30
 have HC4 := am H
 clear H
 go_enter Try.func44, Try.ntmps44
 go_upto_region 4 with (first | ((with_reducible refine gate_callee (f := 68) rfl ?_); refine goesL_ (some 10) rfl rfl Try.func68 (by kernel_rfl) rfl #[.slice A0 l0.length c0] rfl (by (try simp only [mta, mco, mni]); first | done | rfl | (simp only [lnd, lnt]; rfl)) ?_; (with_reducible refine (spec_l00From.calls _ _ l0 t329 t330 t331 w _ ?side1 ?side2 ?side3 A2.out).mono ?_); (case side1 => repeat (first | (with_reducible first | exact HB.out | apply bal | apply pdn | apply bd1) | exact HB.out)); (case side2 => exact HR0.out); (case side3 => exact HC0.out); rintro e w5 ⟨g332, rfl, hi, hb, hb2⟩; refine ⟨_, rfl, ?_⟩; have n0_ := am (hb); have n1_ := am (hi); clear HB; have HB := n0_; have HI332 := n1_; clear n0_ n1_; (try clear hb); (try clear hb2); (try clear hk); (try clear hi)) | ((with_reducible refine gate_callee (f := 69) rfl ?_); refine goesL_ (some 12) rfl rfl Try.func69 (by kernel_rfl) rfl #[.pointer (some ⟨g332, 0, none⟩)] rfl (by (try simp only [mta, mco, mni]); first | done | rfl | (simp only [lnd, lnt]; rfl)) ?_; (with_reducible refine (spec_l13Bent.calls k g332 t329 t330 t331 t333 t336 t337 w _ ?side1 ?side2 A3.out).mono ?_); (case side1 => repeat (first | (with_reducible first | exact HI332.out | apply IsS78.alloc | apply IsS78.drewN | apply IsS78.drew | apply IsS78.set_1 | apply IsS78.set_2) | exact HI332.out)); (case side2 => repeat (first | (with_reducible first | exact HB.out | apply bal | apply pdn | apply bd1 | refine bst ?_ (IsS78.ge HI332.out)) | exact HB.out)); rintro e w6 ⟨v334, rfl, ho0, hi, hb, hk⟩; refine ⟨_, rfl, ?_⟩; have n0_ := am (Kd.S_lower ho0 (below_size (by repeat (first | (with_reducible first | exact HB.out | apply bal | apply pdn | apply bd1 | refine bst ?_ (IsS78.ge HI332.out)) | exact HB.out)))); have n1_ := am (hb); have n2_ := am (hi); clear HB; clear HI332; have HO335 := n0_; have HB := n1_; have HI332 := n2_; clear n0_ n1_ n2_; (try clear hb); (try clear hb2); (try clear hk); (try clear hi); (try clear ho0)))
 (try simp only [Act.put, sit, scz, scs])
 go_cut [19] (fun v19 wc => ∃ (kq : Nat) (x19_3 : Bool) (x333001_3 : Int) (x333002_3 : Int), v19 = .bool x19_3 ∧ Aside0 (spec_DrawHeardEnough.j0 kq t333 0 x19_3 t329 x333001_3 x333002_3 = some (r1, r2, r3, r4)) ∧ Aside0 (kq ≤ k) ∧ Aside0 (Kd.S k43 43 wc w.heap.size (fun _ => True) v334 t333) ∧ Aside0 (IsS78 w wc g332 t329 x333001_3 x333002_3) ∧ Aside0 (Below w.heap.size w wc))
 case first =>
  have H := HC4.out
  clear HC4
  by_cases c7 : (t333.length : Int) > 0
  ·rw [if_pos c7] at H
   have c7b0 : decide (0 < (t333.length : Int)) = true := decide_eq_true c7
   have c7b1 : decide (0 < t333.length) = true := decide_eq_true (by omega)
   clear c7
   (first | rw [c7b0] | (simp only [i64_w, i32_w]; rw [c7b0]) | skip)
   replace H := Option.bind_eq_some_iff.mp H
   obtain ⟨⟨t338, t339, t340⟩, A80, H⟩ := H
   replace H : (spec_DrawHeardEnough.j0 k t333 0 t338 t329 t339 t340) = some (r1, r2, r3, r4) := H
   have A8 := am A80
   clear A80
   have H' := am H
   clear H
   obtain ⟨Ao9, co9, eo9⟩ := Kd.S_slice HO335.out
   subst eo9
   go_wp2_with (first | (go_at_call 70; (with_reducible refine (spec_l00Src_one.calls g332 t329 t336 t337 2 t338 t339 t340 w _ ?side1 ?side2 A8.out).mono ?_); (case side1 => repeat (first | (with_reducible first | exact HI332.out | apply IsS78.alloc | apply IsS78.drewN | apply IsS78.drew | apply IsS78.set_1 | apply IsS78.set_2) | exact HI332.out)); (case side2 => repeat (first | (with_reducible first | exact HB.out | apply bal | apply pdn | apply bd1 | refine bst ?_ (IsS78.ge HI332.out)) | exact HB.out)); rintro e w10 ⟨rfl, hi, hb, hk⟩; have n0_ := am (Kd.S_mono (Kd.S_keep (IsS78.apartS (show IsS78 w _ g332 t329 t336 t337 from by repeat (first | (with_reducible first | exact HI332.out | apply IsS78.alloc | apply IsS78.drewN | apply IsS78.drew | apply IsS78.set_1 | apply IsS78.set_2) | exact HI332.out)) (by (with_reducible repeat (first | apply Kd.S_alloc | apply Kd.S_drewN | apply Kd.S_drew)); exact HO335.out) (by decide)) hk (fun _ h => h.2)) (fun _ h => h.1)); have n1_ := am (hb); have n2_ := am (hi); clear HO335; clear HB; clear HI332; have HO335 := n0_; have HB := n1_; have HI332 := n2_; clear n0_ n1_ n2_; (try clear hb); (try clear hb2); (try clear hk); (try clear hi)))
   go_meet
   case rel => exact ⟨_, (t338), (t339), (t340), (by first | rfl | (simp; done) | (simp [*]; done)), H', ⟨by first | omega | exact Nat.le_refl _⟩, ⟨by (with_reducible repeat (first | apply Kd.S_alloc | apply Kd.S_drewN | apply Kd.S_drew)); exact HO335.out⟩, ⟨by repeat (first | (with_reducible first | exact HI332.out | apply IsS78.alloc | apply IsS78.drewN | apply IsS78.drew | apply IsS78.set_1 | apply IsS78.set_2) | exact HI332.out)⟩, ⟨by repeat (first | (with_reducible first | exact HB.out | apply bal | apply pdn | apply bd1 | refine bst ?_ (IsS78.ge HI332.out)) | exact HB.out)⟩⟩
  ·rw [if_neg c7] at H
   have c7b0 : decide (0 < (t333.length : Int)) = false := decide_eq_false c7
   have c7b1 : decide (0 < t333.length) = false := decide_eq_false (by omega)
   clear c7
   (first | rw [c7b0] | (simp only [i64_w, i32_w]; rw [c7b0]) | skip)
   have H' := am H
   clear H
   obtain ⟨Ao11, co11, eo11⟩ := Kd.S_slice HO335.out
   subst eo11
   go_wp2
   go_meet
   case rel => exact ⟨_, (false), (t336), (t337), (by first | rfl | (simp; done) | (simp [*]; done)), H', ⟨by first | omega | exact Nat.le_refl _⟩, ⟨by (with_reducible repeat (first | apply Kd.S_alloc | apply Kd.S_drewN | apply Kd.S_drew)); exact HO335.out⟩, ⟨by repeat (first | (with_reducible first | exact HI332.out | apply IsS78.alloc | apply IsS78.drewN | apply IsS78.drew | apply IsS78.set_1 | apply IsS78.set_2) | exact HI332.out)⟩, ⟨by repeat (first | (with_reducible first | exact HB.out | apply bal | apply pdn | apply bd1 | refine bst ?_ (IsS78.ge HI332.out)) | exact HB.out)⟩⟩
 case rest =>
  clear HC4
  obtain ⟨kq, x19_3, x333001_3, x333002_3, rfl, HA, HJ3, HO_7, HI332, HB⟩ := hcut
  cases kq with
  | zero => exact absurd HA.out (by simp [spec_DrawHeardEnough.j0])
  | succ kj3 =>
   have H := HA.out
   clear HA
   simp only [spec_DrawHeardEnough.j0] at H
   by_cases c12 : x19_3 = true
   ·subst c12
    have H1 : ((spec_l00Src_pick.f t329 x333001_3 x333002_3 (t333.length : Int)).bind fun bt341 => (if 0 ≤ bt341.1 then (if bt341.1 < (t333.length : Int) then ((spec_l00Src_among.f t329 bt341.2.1 bt341.2.2 (([1, 1, 2, 2, 3, 0, 7, 8] : List Int))).bind fun bt348 => ((spec_l13Some.f kj3 t329 bt348.2.1 bt348.2.2).bind fun bt351 => (some (t333, bt348.1, (rd_T43 t333 bt341.1).f0, bt351.1)))) else (none)) else (none))) = some (r1, r2, r3, r4) := by rw [if_pos rfl] at H; exact H
    clear H
    have H := H1
    clear H1
    replace H := Option.bind_eq_some_iff.mp H
    obtain ⟨⟨t341, t342, t343⟩, A130, H⟩ := H
    replace H : (if 0 ≤ t341 then (if t341 < (t333.length : Int) then ((spec_l00Src_among.f t329 t342 t343 (([1, 1, 2, 2, 3, 0, 7, 8] : List Int))).bind fun bt348 => ((spec_l13Some.f kj3 t329 bt348.2.1 bt348.2.2).bind fun bt351 => (some (t333, bt348.1, (rd_T43 t333 t341).f0, bt351.1)))) else (none)) else (none)) = some (r1, r2, r3, r4) := H
    have A13 := am A130
    clear A130
    by_cases c14 : 0 ≤ t341
    ·rw [if_pos c14] at H
     have c14b0 : decide (0 ≤ t341) = true := decide_eq_true c14
     clear c14
     by_cases c15 : t341 < (t333.length : Int)
     ·rw [if_pos c15] at H
      have c15b0 : decide (t341 < (t333.length : Int)) = true := decide_eq_true c15
      clear c15
      obtain ⟨y345, hy345⟩ : ∃ y_ : List Int, y_ = (([1, 1, 2, 2, 3, 0, 7, 8] : List Int)) := ⟨_, rfl⟩
      replace H : ((spec_l00Src_among.f t329 t342 t343 y345).bind fun bt348 => ((spec_l13Some.f kj3 t329 bt348.2.1 bt348.2.2).bind fun bt351 => (some (t333, bt348.1, (rd_T43 t333 t341).f0, bt351.1)))) = some (r1, r2, r3, r4) := by first | (rw [hy345]; with_reducible exact H) | (have H2_ := (Option.bind_some _ _).symm.trans H; rw [hy345]; with_reducible exact H2_) | (have H2_ := (Option.bind_some _ _).symm.trans H; with_reducible exact H2_) | with_reducible exact H | (rw [hy345]; exact H) | exact H
      have Ny345 := am hy345
      clear hy345
      replace H := Option.bind_eq_some_iff.mp H
      obtain ⟨⟨t348, t349, t350⟩, A160, H⟩ := H
      replace H : ((spec_l13Some.f kj3 t329 t349 t350).bind fun bt351 => (some (t333, t348, (rd_T43 t333 t341).f0, bt351.1))) = some (r1, r2, r3, r4) := H
      have A16 := am A160
      clear A160
      replace H := Option.bind_eq_some_iff.mp H
      obtain ⟨⟨t351, t354, t355⟩, A170, H⟩ := H
      replace H : (some (t333, t348, (rd_T43 t333 t341).f0, t351)) = some (r1, r2, r3, r4) := H
      have A17 := am A170
      clear A170
      simp only [Option.some.injEq, Prod.mk.injEq] at H
      obtain ⟨rfl, rfl, rfl, rfl⟩ := H
      obtain ⟨Ao18, co18, eo18⟩ := Kd.S_slice HO_7.out
      subst eo18
      go_wp2_with (first | ((with_reducible refine gate_callee (f := 71) rfl ?_); refine goesL_ (some 24) rfl rfl Try.func71 (by kernel_rfl) rfl #[.pointer (some ⟨g332, 0, none⟩), .int .i64 (t333.length : Int)] rfl (by (try simp only [mta, mco, mni]); first | done | rfl | (simp only [lnd, lnt]; rfl)) ?_; (with_reducible refine (spec_l00Src_pick.calls g332 t329 x333001_3 x333002_3 (t333.length : Int) t341 t342 t343 w _ ?side1 ?side2 A13.out).mono ?_); (case side1 => repeat (first | (with_reducible first | exact HI332.out | apply IsS78.alloc | apply IsS78.drewN | apply IsS78.drew | apply IsS78.set_1 | apply IsS78.set_2) | exact HI332.out)); (case side2 => repeat (first | (with_reducible first | exact HB.out | apply bal | apply pdn | apply bd1 | refine bst ?_ (IsS78.ge HI332.out)) | exact HB.out)); rintro e w19 ⟨rfl, hi, hb, hk⟩; refine ⟨_, rfl, ?_⟩; have n0_ := am (Kd.S_mono (Kd.S_keep (IsS78.apartS (show IsS78 w _ g332 t329 x333001_3 x333002_3 from by repeat (first | (with_reducible first | exact HI332.out | apply IsS78.alloc | apply IsS78.drewN | apply IsS78.drew | apply IsS78.set_1 | apply IsS78.set_2) | exact HI332.out)) (by (with_reducible repeat (first | apply Kd.S_alloc | apply Kd.S_drewN | apply Kd.S_drew)); exact HO_7.out) (by decide)) hk (fun _ h => h.2)) (fun _ h => h.1)); have n1_ := am (hb); have n2_ := am (hi); clear HO_7; clear HB; clear HI332; have HO_7 := n0_; have HB := n1_; have HI332 := n2_; clear n0_ n1_ n2_; (try clear hb); (try clear hb2); (try clear hk); (try clear hi); have p344 : 0 ≤ (t341 : Int) := of_decide_eq_true (by first | (with_reducible assumption) | assumption); have q344 : t341 < (t333.length : Int) := of_decide_eq_true (by first | (with_reducible assumption) | assumption); obtain ⟨ad344, A344_2, c344_2, e344, hx344_0, hx344_1, hx344_2, hx344_3, hl344_2, hi344_2⟩ := at_T43 (Kd.S_reads' HO_7.out).2.2 t341 p344 q344; cases e344; obtain ⟨ce344, hce344, hMe344, hcc344⟩ := Kd.S_get HO_7.out z43 t341 p344 (by first | exact q344 | exact of_decide_eq_true (by first | (with_reducible assumption) | assumption) | (have e_ := (Kd.S_reads' HO_7.out).1; omega)); obtain ⟨ve344_2, rfl, ge344_2⟩ := k43_openM hMe344; have hv344_2 := hcc344 2 _ rfl; rw [add_field _ _ 2 (by omega)] at hv344_2; replace hv344_2 := Option.some.inj (hv344_2.symm.trans hx344_2); rw [hv344_2] at ge344_2; have HL344_2 := am (show Kd.R (Kd.int .i64) 2 _ _ _ _ ((rd_T43 t333 t341).f2) from ge344_2); clear hv344_2 ge344_2; clear hcc344 hce344; have HR344_2 := am hi344_2; have HC344_2 := am hl344_2; clear hi344_2 hl344_2; replace p344 := eq_true p344; replace q344 := eq_true q344) | ((with_reducible refine gate_dst (N := 30) rfl ?_); refine Kd.R_lit (Kd.int .i64) _ 2 ?hg (N := 30) ?hd (xs := ([1, 1, 2, 2, 3, 0, 7, 8] : List Int)) (inner := [.int .i64 1, .int .i64 1, .int .i64 2, .int .i64 2, .int .i64 3, .int .i64 0, .int .i64 7, .int .i64 8]) (ok := fun _ => True) (okp := fun _ => True) ?hr ?hp (fun _ hk => hk) trivial (Below.refl _ _) (Nat.le_refl _) (by simp) ?_; (case hd => rfl); (case hg => rfl); (case hr => first | (go_simp; done) | (go_simp; rfl)); (case hp => exact (Reps.one (show Kd.M (Kd.int .i64) _ _ _ 1 [.int .i64 1] from rfl) (Reps.one (show Kd.M (Kd.int .i64) _ _ _ 1 [.int .i64 1] from rfl) (Reps.one (show Kd.M (Kd.int .i64) _ _ _ 2 [.int .i64 2] from rfl) (Reps.one (show Kd.M (Kd.int .i64) _ _ _ 2 [.int .i64 2] from rfl) (Reps.one (show Kd.M (Kd.int .i64) _ _ _ 3 [.int .i64 3] from rfl) (Reps.one (show Kd.M (Kd.int .i64) _ _ _ 0 [.int .i64 0] from rfl) (Reps.one (show Kd.M (Kd.int .i64) _ _ _ 7 [.int .i64 7] from rfl) (Reps.one (show Kd.M (Kd.int .i64) _ _ _ 8 [.int .i64 8] from rfl) (Reps.none _ _)))))))))); intro v346 w20 ho21 hb hg_ hnew_; clear hg_ hnew_; (first | rw [← Ny345.out] at ho21 | (simp only [Int.reduceToNat] at ho21; rw [← Ny345.out] at ho21)); have n0_ := am (Kd.S_elder' (by (with_reducible repeat (first | apply Kd.S_alloc | apply Kd.S_drewN | apply Kd.S_drew)); exact HO_7.out) (Kd.R_base ho21) hb); have n1_ := am (kre (by (with_reducible repeat (first | apply kra | apply krn | apply krd)); exact HL344_2.out) (Kd.R_base ho21) hb); have n2_ := am (Kd.R_lower (Kd.R_new' ho21 (Kd.R_lt (by (with_reducible repeat (first | apply kra | apply krn | apply krd)); exact HL344_2.out))) (below_size (by repeat (first | (with_reducible first | exact HB.out | apply bal | apply pdn | apply bd1 | refine bst ?_ (IsS78.ge HI332.out)) | exact HB.out)))); have n3_ := am (IsS78.below (by repeat (first | (with_reducible first | exact HI332.out | apply IsS78.alloc | apply IsS78.drewN | apply IsS78.drew | apply IsS78.set_1 | apply IsS78.set_2) | exact HI332.out)) hb); have n4_ := am (Kd.C_below (by repeat (first | (with_reducible exact HR344_2.out) | (with_reducible first | apply kca | apply kcn | apply kcd) | exact HR344_2.out)) hb); have n5_ := am (below_step (by repeat (first | (with_reducible first | exact HB.out | apply bal | apply pdn | apply bd1 | refine bst ?_ (IsS78.ge HI332.out)) | exact HB.out)) hb); clear HO_7; clear HL344_2; clear HI332; clear HR344_2; clear HB; have HO_7 := n0_; have HL344_2 := n1_; have HO347 := n2_; have HI332 := n3_; have HR344_2 := n4_; have HB := n5_; clear n0_ n1_ n2_ n3_ n4_ n5_; clear hb ho21; obtain ⟨Ao22, co22, eo22⟩ := Kd.R_slice HO347.out; subst eo22) | ((with_reducible refine gate_callee (f := 72) rfl ?_); refine goesL_ (some 31) rfl rfl Try.func72 (by kernel_rfl) rfl #[.pointer (some ⟨g332, 0, none⟩), .slice Ao22 y345.length co22] rfl (by (try simp only [mta, mco, mni]); first | done | rfl | (simp only [lnd, lnt]; rfl)) ?_; (with_reducible refine (spec_l00Src_among.calls g332 t329 t342 t343 _ _ y345 t348 t349 t350 w _ ?side1 ?side2 ?side3 ?side4 ?side5 A16.out).mono ?_); (case side1 => repeat (first | (with_reducible first | exact HI332.out | apply IsS78.alloc | apply IsS78.drewN | apply IsS78.drew | apply IsS78.set_1 | apply IsS78.set_2) | exact HI332.out)); (case side2 => repeat (first | (with_reducible first | exact HB.out | apply bal | apply pdn | apply bd1 | refine bst ?_ (IsS78.ge HI332.out)) | exact HB.out)); (case side3 => repeat (first | exact (Kd.R_reads' HO347.out).2.2 | (with_reducible first | apply kca | apply kcn | apply kcd))); (case side4 => exact (Kd.R_reads' HO347.out).2.1); (case side5 => exact far_slice (IsS78.own_ne HI332.out HO347.out (by decide))); rintro e w23 ⟨rfl, hi, hb, hk⟩; refine ⟨_, rfl, ?_⟩; have n0_ := am (Kd.S_mono (Kd.S_keep (IsS78.apartS (show IsS78 w _ g332 t329 t342 t343 from by repeat (first | (with_reducible first | exact HI332.out | apply IsS78.alloc | apply IsS78.drewN | apply IsS78.drew | apply IsS78.set_1 | apply IsS78.set_2) | exact HI332.out)) (by (with_reducible repeat (first | apply Kd.S_alloc | apply Kd.S_drewN | apply Kd.S_drew)); exact HO_7.out) (by decide)) hk (fun _ h => h.2)) (fun _ h => h.1)); have n1_ := am (Kd.R_mono (Kd.R_keep (IsS78.apart (show IsS78 w _ g332 t329 t342 t343 from by repeat (first | (with_reducible first | exact HI332.out | apply IsS78.alloc | apply IsS78.drewN | apply IsS78.drew | apply IsS78.set_1 | apply IsS78.set_2) | exact HI332.out)) (by (with_reducible repeat (first | apply kra | apply krn | apply krd)); exact HL344_2.out) (by decide)) hk (fun _ h => h.2)) (fun _ h => h.1)); have n2_ := am (Kd.R_mono (Kd.R_keep (IsS78.apart (show IsS78 w _ g332 t329 t342 t343 from by repeat (first | (with_reducible first | exact HI332.out | apply IsS78.alloc | apply IsS78.drewN | apply IsS78.drew | apply IsS78.set_1 | apply IsS78.set_2) | exact HI332.out)) (by (with_reducible repeat (first | apply kra | apply krn | apply krd)); exact HO347.out) (by decide)) hk (fun _ h => h.2)) (fun _ h => h.1)); have n3_ := am (hb); have n4_ := am (hi); clear HO_7; clear HL344_2; clear HO347; clear HB; clear HI332; have HO_7 := n0_; have HL344_2 := n1_; have HO347 := n2_; have HB := n3_; have HI332 := n4_; clear n0_ n1_ n2_ n3_ n4_; (try clear hb); (try clear hb2); (try clear hk); (try clear hi)) | ((with_reducible refine gate_callee (f := 73) rfl ?_); refine goesL_ (some 34) rfl rfl Try.func73 (by kernel_rfl) rfl #[.pointer (some ⟨g332, 0, none⟩)] rfl (by (try simp only [mta, mco, mni]); first | done | rfl | (simp only [lnd, lnt]; rfl)) ?_; (with_reducible refine (spec_l13Some.calls kj3 g332 t329 t349 t350 t351 t354 t355 w _ ?side1 ?side2 A17.out).mono ?_); (case side1 => repeat (first | (with_reducible first | exact HI332.out | apply IsS78.alloc | apply IsS78.drewN | apply IsS78.drew | apply IsS78.set_1 | apply IsS78.set_2) | exact HI332.out)); (case side2 => repeat (first | (with_reducible first | exact HB.out | apply bal | apply pdn | apply bd1 | refine bst ?_ (IsS78.ge HI332.out)) | exact HB.out)); rintro e w24 ⟨v352, rfl, ho0, hi, hb, hk⟩; refine ⟨_, rfl, ?_⟩; have n0_ := am (Kd.S_mono (Kd.S_told (Kd.S_oldK (IsS78.apartS (show IsS78 w _ g332 t329 t349 t350 from by repeat (first | (with_reducible first | exact HI332.out | apply IsS78.alloc | apply IsS78.drewN | apply IsS78.drew | apply IsS78.set_1 | apply IsS78.set_2) | exact HI332.out)) (by (with_reducible repeat (first | apply Kd.S_alloc | apply Kd.S_drewN | apply Kd.S_drew)); exact HO_7.out) (by decide)) hk) (Kd.R_base ho0)) (fun _ h_ => h_.1)); have n1_ := am (Kd.R_mono (Kd.R_told (Kd.R_oldK (IsS78.apart (show IsS78 w _ g332 t329 t349 t350 from by repeat (first | (with_reducible first | exact HI332.out | apply IsS78.alloc | apply IsS78.drewN | apply IsS78.drew | apply IsS78.set_1 | apply IsS78.set_2) | exact HI332.out)) (by (with_reducible repeat (first | apply kra | apply krn | apply krd)); exact HL344_2.out) (by decide)) hk) (Kd.R_base ho0)) (fun _ h_ => h_.1)); have n2_ := am (Kd.R_mono (Kd.R_told (Kd.R_oldK (IsS78.apart (show IsS78 w _ g332 t329 t349 t350 from by repeat (first | (with_reducible first | exact HI332.out | apply IsS78.alloc | apply IsS78.drewN | apply IsS78.drew | apply IsS78.set_1 | apply IsS78.set_2) | exact HI332.out)) (by (with_reducible repeat (first | apply kra | apply krn | apply krd)); exact HO347.out) (by decide)) hk) (Kd.R_base ho0)) (fun _ h_ => h_.1)); have n3_ := am (Kd.R_lower (Kd.R_new' (Kd.R_new' ho0 (Kd.R_lt (by (with_reducible repeat (first | apply kra | apply krn | apply krd)); exact HL344_2.out))) (Kd.R_lt (by (with_reducible repeat (first | apply kra | apply krn | apply krd)); exact HO347.out))) (below_size (by repeat (first | (with_reducible first | exact HB.out | apply bal | apply pdn | apply bd1 | refine bst ?_ (IsS78.ge HI332.out)) | exact HB.out)))); have n4_ := am (hb); have n5_ := am (hi); clear HO_7; clear HL344_2; clear HO347; clear HB; clear HI332; have HO_7 := n0_; have HL344_2 := n1_; have HO347 := n2_; have HO353 := n3_; have HB := n4_; have HI332 := n5_; clear n0_ n1_ n2_ n3_ n4_ n5_; (try clear hb); (try clear hb2); (try clear hk); (try clear hi); (try clear ho0)))
      refine bodyPost_ret (results_list (rs := [.tmp 2, .tmp 3, .tmp 4, .tmp 5]) rfl (by simp) (.tmp (.tmp (.tmp (.tmp .nil))))) rfl ?_
      exact ⟨_, _, by first | rfl | (simp [errW_none, errW_some] <;> rfl) | (simp [*, errW_none, errW_some] <;> rfl), by (with_reducible repeat (first | apply Kd.S_alloc | apply Kd.S_drewN | apply Kd.S_drew)); exact Kd.S_mono HO_7.out (fun _ hk => hk.2), by (with_reducible repeat (first | apply kra | apply krn | apply krd)); exact Kd.R_mono HO353.out (fun _ hk => trivial), by repeat (first | (with_reducible first | exact HB.out | apply bal | apply pdn | apply bd1 | refine bst ?_ (IsS78.ge HI332.out)) | exact HB.out)⟩
     ·rw [if_neg c15] at H
      exact absurd H (by simp)
    ·rw [if_neg c14] at H
     exact absurd H (by simp)
   ·replace c12 := Bool.eq_false_iff.mpr c12
    subst c12
    have H1 : ((spec_l00Src_among.f t329 x333001_3 x333002_3 (([1, 1, 2, 2, 3, 0, 7, 8] : List Int))).bind fun bt359 => ((spec_l13Some.f kj3 t329 bt359.2.1 bt359.2.2).bind fun bt362 => (some (t333, bt359.1, 0, bt362.1)))) = some (r1, r2, r3, r4) := by rw [if_neg (show ¬ (false = true) by decide)] at H; exact H
    clear H
    have H := H1
    clear H1
    obtain ⟨y356, hy356⟩ : ∃ y_ : List Int, y_ = (([1, 1, 2, 2, 3, 0, 7, 8] : List Int)) := ⟨_, rfl⟩
    replace H : ((spec_l00Src_among.f t329 x333001_3 x333002_3 y356).bind fun bt359 => ((spec_l13Some.f kj3 t329 bt359.2.1 bt359.2.2).bind fun bt362 => (some (t333, bt359.1, 0, bt362.1)))) = some (r1, r2, r3, r4) := by first | (rw [hy356]; with_reducible exact H) | (have H2_ := (Option.bind_some _ _).symm.trans H; rw [hy356]; with_reducible exact H2_) | (have H2_ := (Option.bind_some _ _).symm.trans H; with_reducible exact H2_) | with_reducible exact H | (rw [hy356]; exact H) | exact H
    have Ny356 := am hy356
    clear hy356
    replace H := Option.bind_eq_some_iff.mp H
    obtain ⟨⟨t359, t360, t361⟩, A250, H⟩ := H
    replace H : ((spec_l13Some.f kj3 t329 t360 t361).bind fun bt362 => (some (t333, t359, 0, bt362.1))) = some (r1, r2, r3, r4) := H
    have A25 := am A250
    clear A250
    replace H := Option.bind_eq_some_iff.mp H
    obtain ⟨⟨t362, t365, t366⟩, A260, H⟩ := H
    replace H : (some (t333, t359, 0, t362)) = some (r1, r2, r3, r4) := H
    have A26 := am A260
    clear A260
    simp only [Option.some.injEq, Prod.mk.injEq] at H
    obtain ⟨rfl, rfl, rfl, rfl⟩ := H
    go_wp2_with (first | ((with_reducible refine gate_dst (N := 30) rfl ?_); refine Kd.R_lit (Kd.int .i64) _ 2 ?hg (N := 30) ?hd (xs := ([1, 1, 2, 2, 3, 0, 7, 8] : List Int)) (inner := [.int .i64 1, .int .i64 1, .int .i64 2, .int .i64 2, .int .i64 3, .int .i64 0, .int .i64 7, .int .i64 8]) (ok := fun _ => True) (okp := fun _ => True) ?hr ?hp (fun _ hk => hk) trivial (Below.refl _ _) (Nat.le_refl _) (by simp) ?_; (case hd => rfl); (case hg => rfl); (case hr => first | (go_simp; done) | (go_simp; rfl)); (case hp => exact (Reps.one (show Kd.M (Kd.int .i64) _ _ _ 1 [.int .i64 1] from rfl) (Reps.one (show Kd.M (Kd.int .i64) _ _ _ 1 [.int .i64 1] from rfl) (Reps.one (show Kd.M (Kd.int .i64) _ _ _ 2 [.int .i64 2] from rfl) (Reps.one (show Kd.M (Kd.int .i64) _ _ _ 2 [.int .i64 2] from rfl) (Reps.one (show Kd.M (Kd.int .i64) _ _ _ 3 [.int .i64 3] from rfl) (Reps.one (show Kd.M (Kd.int .i64) _ _ _ 0 [.int .i64 0] from rfl) (Reps.one (show Kd.M (Kd.int .i64) _ _ _ 7 [.int .i64 7] from rfl) (Reps.one (show Kd.M (Kd.int .i64) _ _ _ 8 [.int .i64 8] from rfl) (Reps.none _ _)))))))))); intro v357 w27 ho28 hb hg_ hnew_; clear hg_ hnew_; (first | rw [← Ny356.out] at ho28 | (simp only [Int.reduceToNat] at ho28; rw [← Ny356.out] at ho28)); have n0_ := am (Kd.S_elder' (by (with_reducible repeat (first | apply Kd.S_alloc | apply Kd.S_drewN | apply Kd.S_drew)); exact HO_7.out) (Kd.R_base ho28) hb); have n1_ := am (Kd.R_lower ho28 (below_size (by repeat (first | (with_reducible first | exact HB.out | apply bal | apply pdn | apply bd1 | refine bst ?_ (IsS78.ge HI332.out)) | exact HB.out)))); have n2_ := am (IsS78.below (by repeat (first | (with_reducible first | exact HI332.out | apply IsS78.alloc | apply IsS78.drewN | apply IsS78.drew | apply IsS78.set_1 | apply IsS78.set_2) | exact HI332.out)) hb); have n3_ := am (below_step (by repeat (first | (with_reducible first | exact HB.out | apply bal | apply pdn | apply bd1 | refine bst ?_ (IsS78.ge HI332.out)) | exact HB.out)) hb); clear HO_7; clear HI332; clear HB; have HO_7 := n0_; have HO358 := n1_; have HI332 := n2_; have HB := n3_; clear n0_ n1_ n2_ n3_; clear hb ho28; obtain ⟨Ao29, co29, eo29⟩ := Kd.R_slice HO358.out; subst eo29) | ((with_reducible refine gate_callee (f := 72) rfl ?_); refine goesL_ (some 31) rfl rfl Try.func72 (by kernel_rfl) rfl #[.pointer (some ⟨g332, 0, none⟩), .slice Ao29 y356.length co29] rfl (by (try simp only [mta, mco, mni]); first | done | rfl | (simp only [lnd, lnt]; rfl)) ?_; (with_reducible refine (spec_l00Src_among.calls g332 t329 x333001_3 x333002_3 _ _ y356 t359 t360 t361 w _ ?side1 ?side2 ?side3 ?side4 ?side5 A25.out).mono ?_); (case side1 => repeat (first | (with_reducible first | exact HI332.out | apply IsS78.alloc | apply IsS78.drewN | apply IsS78.drew | apply IsS78.set_1 | apply IsS78.set_2) | exact HI332.out)); (case side2 => repeat (first | (with_reducible first | exact HB.out | apply bal | apply pdn | apply bd1 | refine bst ?_ (IsS78.ge HI332.out)) | exact HB.out)); (case side3 => repeat (first | exact (Kd.R_reads' HO358.out).2.2 | (with_reducible first | apply kca | apply kcn | apply kcd))); (case side4 => exact (Kd.R_reads' HO358.out).2.1); (case side5 => exact far_slice (IsS78.own_ne HI332.out HO358.out (by decide))); rintro e w30 ⟨rfl, hi, hb, hk⟩; refine ⟨_, rfl, ?_⟩; have n0_ := am (Kd.S_mono (Kd.S_keep (IsS78.apartS (show IsS78 w _ g332 t329 x333001_3 x333002_3 from by repeat (first | (with_reducible first | exact HI332.out | apply IsS78.alloc | apply IsS78.drewN | apply IsS78.drew | apply IsS78.set_1 | apply IsS78.set_2) | exact HI332.out)) (by (with_reducible repeat (first | apply Kd.S_alloc | apply Kd.S_drewN | apply Kd.S_drew)); exact HO_7.out) (by decide)) hk (fun _ h => h.2)) (fun _ h => h.1)); have n1_ := am (Kd.R_mono (Kd.R_keep (IsS78.apart (show IsS78 w _ g332 t329 x333001_3 x333002_3 from by repeat (first | (with_reducible first | exact HI332.out | apply IsS78.alloc | apply IsS78.drewN | apply IsS78.drew | apply IsS78.set_1 | apply IsS78.set_2) | exact HI332.out)) (by (with_reducible repeat (first | apply kra | apply krn | apply krd)); exact HO358.out) (by decide)) hk (fun _ h => h.2)) (fun _ h => h.1)); have n2_ := am (hb); have n3_ := am (hi); clear HO_7; clear HO358; clear HB; clear HI332; have HO_7 := n0_; have HO358 := n1_; have HB := n2_; have HI332 := n3_; clear n0_ n1_ n2_ n3_; (try clear hb); (try clear hb2); (try clear hk); (try clear hi)) | ((with_reducible refine gate_callee (f := 73) rfl ?_); refine goesL_ (some 34) rfl rfl Try.func73 (by kernel_rfl) rfl #[.pointer (some ⟨g332, 0, none⟩)] rfl (by (try simp only [mta, mco, mni]); first | done | rfl | (simp only [lnd, lnt]; rfl)) ?_; (with_reducible refine (spec_l13Some.calls kj3 g332 t329 t360 t361 t362 t365 t366 w _ ?side1 ?side2 A26.out).mono ?_); (case side1 => repeat (first | (with_reducible first | exact HI332.out | apply IsS78.alloc | apply IsS78.drewN | apply IsS78.drew | apply IsS78.set_1 | apply IsS78.set_2) | exact HI332.out)); (case side2 => repeat (first | (with_reducible first | exact HB.out | apply bal | apply pdn | apply bd1 | refine bst ?_ (IsS78.ge HI332.out)) | exact HB.out)); rintro e w31 ⟨v363, rfl, ho0, hi, hb, hk⟩; refine ⟨_, rfl, ?_⟩; have n0_ := am (Kd.S_mono (Kd.S_told (Kd.S_oldK (IsS78.apartS (show IsS78 w _ g332 t329 t360 t361 from by repeat (first | (with_reducible first | exact HI332.out | apply IsS78.alloc | apply IsS78.drewN | apply IsS78.drew | apply IsS78.set_1 | apply IsS78.set_2) | exact HI332.out)) (by (with_reducible repeat (first | apply Kd.S_alloc | apply Kd.S_drewN | apply Kd.S_drew)); exact HO_7.out) (by decide)) hk) (Kd.R_base ho0)) (fun _ h_ => h_.1)); have n1_ := am (Kd.R_mono (Kd.R_told (Kd.R_oldK (IsS78.apart (show IsS78 w _ g332 t329 t360 t361 from by repeat (first | (with_reducible first | exact HI332.out | apply IsS78.alloc | apply IsS78.drewN | apply IsS78.drew | apply IsS78.set_1 | apply IsS78.set_2) | exact HI332.out)) (by (with_reducible repeat (first | apply kra | apply krn | apply krd)); exact HO358.out) (by decide)) hk) (Kd.R_base ho0)) (fun _ h_ => h_.1)); have n2_ := am (Kd.R_lower (Kd.R_new' ho0 (Kd.R_lt (by (with_reducible repeat (first | apply kra | apply krn | apply krd)); exact HO358.out))) (below_size (by repeat (first | (with_reducible first | exact HB.out | apply bal | apply pdn | apply bd1 | refine bst ?_ (IsS78.ge HI332.out)) | exact HB.out)))); have n3_ := am (hb); have n4_ := am (hi); clear HO_7; clear HO358; clear HB; clear HI332; have HO_7 := n0_; have HO358 := n1_; have HO364 := n2_; have HB := n3_; have HI332 := n4_; clear n0_ n1_ n2_ n3_ n4_; (try clear hb); (try clear hb2); (try clear hk); (try clear hi); (try clear ho0)))
    refine bodyPost_ret (results_list (rs := [.tmp 2, .tmp 3, .tmp 4, .tmp 5]) rfl (by simp) (.tmp (.tmp (.tmp (.tmp .nil))))) rfl ?_
    exact ⟨_, _, by first | rfl | (simp [errW_none, errW_some] <;> rfl) | (simp [*, errW_none, errW_some] <;> rfl), by (with_reducible repeat (first | apply Kd.S_alloc | apply Kd.S_drewN | apply Kd.S_drew)); exact Kd.S_mono HO_7.out (fun _ hk => hk.2), by (with_reducible repeat (first | apply kra | apply krn | apply krd)); exact Kd.R_mono HO364.out (fun _ hk => trivial), by repeat (first | (with_reducible first | exact HB.out | apply bal | apply pdn | apply bd1 | refine bst ?_ (IsS78.ge HI332.out)) | exact HB.out)⟩

/-! ### laws_c2At: function 45 -/
def laws_c2At.f (l0 : List Int) (a1 : Int) (a2 : Int) : Option (Int) := if a2 ≤ 1 then (some 0) else (if a1 < (l0.length : Int) then (if 0 ≤ a1 then (if a2 = 0 then (none) else (some (Int.tmod (wrap64 (rd l0 a1)) a2))) else (none)) else (if a2 = 0 then (none) else (some (Int.tmod (wrap64 ((wrap64 (a1 * 29)) + 5)) a2))))
set_option maxHeartbeats 8000000 in
set_option maxRecDepth 100000 in
theorem laws_c2At.calls (A0 : Option Addr) (c0 : Nat) (l0 : List Int) (a1 : Int) (a2 : Int) (r : Int) (w : World) (hr0 : Kd.C (Kd.int .u8) w A0 l0.length l0) (hc0 : l0.length ≤ c0) (h : laws_c2At.f l0 a1 a2 = some r) :
  Calls Try.prog 45 #[.slice A0 l0.length c0, .int .i64 a1, .int .i64 a2] w fun e w' => e = .returned (.int .i64 r) ∧ Drawn0 w w' := by
 have HR0 := am hr0
 have HC0 := am hc0
 clear hr0 hc0
 have H : (if a2 ≤ 1 then (some 0) else (if a1 < (l0.length : Int) then (if 0 ≤ a1 then (if a2 = 0 then (none) else (some (Int.tmod (wrap64 (rd l0 a1)) a2))) else (none)) else (if a2 = 0 then (none) else (some (Int.tmod (wrap64 ((wrap64 (a1 * 29)) + 5)) a2))))) = some r := h
 clear h
 by_cases c4 : a2 ≤ 1
 ·rw [if_pos c4] at H
  have c4b0 : decide (a2 ≤ 1) = true := decide_eq_true c4
  clear c4
  obtain rfl := Option.some.inj H
  go_enter Try.func45, Try.ntmps45
  go_wp2
  go_ret
  exact ⟨by first | rfl | (simp; done) | (simp [*]; done), by repeat (first | exact Drawn0.refl _ | apply Drawn0.step)⟩
 ·rw [if_neg c4] at H
  have c4b0 : decide (a2 ≤ 1) = false := decide_eq_false c4
  clear c4
  by_cases c5 : a1 < (l0.length : Int)
  ·rw [if_pos c5] at H
   have c5b0 : decide (a1 < (l0.length : Int)) = true := decide_eq_true c5
   clear c5
   by_cases c6 : 0 ≤ a1
   ·rw [if_pos c6] at H
    have c6b0 : decide (0 ≤ a1) = true := decide_eq_true c6
    clear c6
    by_cases c7 : a2 = 0
    ·rw [if_pos c7] at H
     exact absurd H (by simp)
    ·rw [if_neg c7] at H
     have c7b0 : (a2 == 0) = false := beq_eq_false_iff_ne.mpr c7
     have c7b1 : (a2 != 0) = true := bne_iff_ne.mpr c7
     obtain rfl := Option.some.inj H
     have p367 : 0 ≤ (a1 : Int) := of_decide_eq_true (by first | (with_reducible assumption) | assumption)
     have q367 : a1 < (l0.length : Int) := of_decide_eq_true (by first | (with_reducible assumption) | assumption)
     obtain ⟨ad367, e367, hx367_0⟩ := Kd.at_int HR0.out a1 p367 q367
     cases e367
     replace p367 := eq_true p367
     replace q367 := eq_true q367
     go_enter Try.func45, Try.ntmps45
     go_wp2
     go_ret
     exact ⟨by first | rfl | (simp; done) | (simp [*]; done), by repeat (first | exact Drawn0.refl _ | apply Drawn0.step)⟩
   ·rw [if_neg c6] at H
    exact absurd H (by simp)
  ·rw [if_neg c5] at H
   have c5b0 : decide (a1 < (l0.length : Int)) = false := decide_eq_false c5
   clear c5
   by_cases c8 : a2 = 0
   ·rw [if_pos c8] at H
    exact absurd H (by simp)
   ·rw [if_neg c8] at H
    have c8b0 : (a2 == 0) = false := beq_eq_false_iff_ne.mpr c8
    have c8b1 : (a2 != 0) = true := bne_iff_ne.mpr c8
    obtain rfl := Option.some.inj H
    go_enter Try.func45, Try.ntmps45
    go_wp2
    go_ret
    exact ⟨by first | rfl | (simp; done) | (simp [*]; done), by repeat (first | exact Drawn0.refl _ | apply Drawn0.step)⟩

/-! ### laws_FnHeard: function 12 -/
mutual
def laws_FnHeard.l0 : Nat → List (S43) → Int → Int → List Int → Bool → Int → List Int → Bool → Int → Option (Bool)
 | 0, _, _, _, _, _, _, _, _, _ => none
 | k + 1, x5, x6, x7, x8, x9, x10, x11, x12, x13 => if x13 < (x8.length : Int) then (if x12 = true then (laws_FnHeard.j1 k x5 x6 x7 x8 x9 x10 x11 x12 x13 false) else (if 0 ≤ x13 then (laws_FnHeard.j1 k x5 x6 x7 x8 x9 x10 x11 x12 x13 (decide ((rd x8 x13) ≥ x10))) else (none))) else (if x12 = true then (if x9 = true then ((impl_HeardEnough.f k x5 x6 x7 x11).bind fun t400 => (if t400 = true then (if x6 ≤ 1 then (some true) else ((impl_HeardEnough.f k x5 (wrap64 (x6 - 1)) x7 x8).bind fun t401 => (some t401))) else (some false))) else (some true)) else (if x11.length < 17592186044416 then (if x9 = true then ((impl_HeardEnough.f k x5 x6 x7 (x11 ++ [x10])).bind fun t405 => (if t405 = true then (if x6 ≤ 1 then (some true) else ((impl_HeardEnough.f k x5 (wrap64 (x6 - 1)) x7 x8).bind fun t406 => (some t406))) else (some false))) else (some true)) else (none)))
def laws_FnHeard.j1 : Nat → List (S43) → Int → Int → List Int → Bool → Int → List Int → Bool → Int → Bool → Option (Bool)
 | 0, _, _, _, _, _, _, _, _, _, _ => none
 | k + 1, x5, x6, x7, x8, x9, x10, x11, x12, x13, x54 => if x54 = true then (if 0 ≤ x13 then (if x13 < (x8.length : Int) then (if (rd x8 x13) > x10 then (if x11.length < 17592186044416 then ((some (x11 ++ [x10] : List Int)).bind fun y385 => (if y385.length < 17592186044416 then (laws_FnHeard.l0 k x5 x6 x7 x8 x9 x10 (y385 ++ [rd x8 x13]) true (wrap64 (x13 + 1))) else (none))) else (none)) else (if x11.length < 17592186044416 then (laws_FnHeard.l0 k x5 x6 x7 x8 x9 x10 (x11 ++ [rd x8 x13]) true (wrap64 (x13 + 1))) else (none))) else (none)) else (none)) else (if 0 ≤ x13 then (if x13 < (x8.length : Int) then (if x11.length < 17592186044416 then (laws_FnHeard.l0 k x5 x6 x7 x8 x9 x10 (x11 ++ [rd x8 x13]) x12 (wrap64 (x13 + 1))) else (none)) else (none)) else (none))
end
def laws_FnHeard.f (k : Nat) (l0 : List Int) (l1 : List Int) : Option (Bool) := (laws_c2Big.f l0 l1).bind fun t368 => (if t368 = true then (some true) else ((spec_DrawHeardEnough.f k l0).bind fun bt369 => ((impl_HeardEnough.f k bt369.1 bt369.2.1 bt369.2.2.1 bt369.2.2.2).bind fun t377 => ((spec_HeardEnough.f k bt369.1 bt369.2.1 bt369.2.2.1 bt369.2.2.2).bind fun t378 => (if (t377 != t378) = true then (some false) else ((laws_c2At.f l1 0 16).bind fun t379 => (laws_FnHeard.l0 k bt369.1 bt369.2.1 bt369.2.2.1 bt369.2.2.2 t377 t379 (([] : List Int)) false 0)))))))
theorem laws_FnHeard.mono_l : ∀ k, (∀ y0 y1 y2 y3 y4 y5 y6 y7 y8, LeO (laws_FnHeard.l0 k y0 y1 y2 y3 y4 y5 y6 y7 y8) (laws_FnHeard.l0 (k + 1) y0 y1 y2 y3 y4 y5 y6 y7 y8)) ∧ (∀ y0 y1 y2 y3 y4 y5 y6 y7 y8 y9, LeO (laws_FnHeard.j1 k y0 y1 y2 y3 y4 y5 y6 y7 y8 y9) (laws_FnHeard.j1 (k + 1) y0 y1 y2 y3 y4 y5 y6 y7 y8 y9))
 | 0 => ⟨fun _ _ _ _ _ _ _ _ _ r h => by simp [laws_FnHeard.l0] at h, fun _ _ _ _ _ _ _ _ _ _ r h => by simp [laws_FnHeard.j1] at h⟩
 | k + 1 => by
  obtain ⟨ih0, ih1⟩ := laws_FnHeard.mono_l k
  refine ⟨?_, ?_⟩
  ·intro y0 y1 y2 y3 y4 y5 y6 y7 y8
   unfold laws_FnHeard.l0
   repeat' first
   | (with_reducible exact ih0 _ _ _ _ _ _ _ _ _)
   | (with_reducible exact ih1 _ _ _ _ _ _ _ _ _ _)
   | (with_reducible exact impl_HeardEnough.mono _ _ _ _ _)
   | (with_reducible exact spec_DrawHeardEnough.mono _ _)
   | (with_reducible exact spec_HeardEnough.mono _ _ _ _ _)
   | (with_reducible exact LeO.refl _)
   | (with_reducible exact LeO.none _)
   | (with_reducible refine LeO.ite ?_ ?_)
   | (with_reducible refine LeO.bind ?_ (fun _ => ?_))
   | exact ih0 _ _ _ _ _ _ _ _ _
   | exact ih1 _ _ _ _ _ _ _ _ _ _
   | exact impl_HeardEnough.mono _ _ _ _ _
   | exact spec_DrawHeardEnough.mono _ _
   | exact spec_HeardEnough.mono _ _ _ _ _
   | exact LeO.none _
   | refine LeO.ite ?_ ?_
   | refine LeO.bind ?_ (fun _ => ?_)
  ·intro y0 y1 y2 y3 y4 y5 y6 y7 y8 y9
   unfold laws_FnHeard.j1
   repeat' first
   | (with_reducible exact ih0 _ _ _ _ _ _ _ _ _)
   | (with_reducible exact ih1 _ _ _ _ _ _ _ _ _ _)
   | (with_reducible exact impl_HeardEnough.mono _ _ _ _ _)
   | (with_reducible exact spec_DrawHeardEnough.mono _ _)
   | (with_reducible exact spec_HeardEnough.mono _ _ _ _ _)
   | (with_reducible exact LeO.refl _)
   | (with_reducible exact LeO.none _)
   | (with_reducible refine LeO.ite ?_ ?_)
   | (with_reducible refine LeO.bind ?_ (fun _ => ?_))
   | exact ih0 _ _ _ _ _ _ _ _ _
   | exact ih1 _ _ _ _ _ _ _ _ _ _
   | exact impl_HeardEnough.mono _ _ _ _ _
   | exact spec_DrawHeardEnough.mono _ _
   | exact spec_HeardEnough.mono _ _ _ _ _
   | exact LeO.none _
   | refine LeO.ite ?_ ?_
   | refine LeO.bind ?_ (fun _ => ?_)
theorem laws_FnHeard.mono : ∀ a0 a1 k, LeO (laws_FnHeard.f k a0 a1) (laws_FnHeard.f (k + 1) a0 a1) := by
 intro a0 a1 k
 obtain ⟨ih0, ih1⟩ := laws_FnHeard.mono_l k
 unfold laws_FnHeard.f
 repeat' first
   | (with_reducible exact ih0 _ _ _ _ _ _ _ _ _)
   | (with_reducible exact ih1 _ _ _ _ _ _ _ _ _ _)
   | (with_reducible exact impl_HeardEnough.mono _ _ _ _ _)
   | (with_reducible exact spec_DrawHeardEnough.mono _ _)
   | (with_reducible exact spec_HeardEnough.mono _ _ _ _ _)
   | (with_reducible exact LeO.refl _)
   | (with_reducible exact LeO.none _)
   | (with_reducible refine LeO.ite ?_ ?_)
   | (with_reducible refine LeO.bind ?_ (fun _ => ?_))
   | exact ih0 _ _ _ _ _ _ _ _ _
   | exact ih1 _ _ _ _ _ _ _ _ _ _
   | exact impl_HeardEnough.mono _ _ _ _ _
   | exact spec_DrawHeardEnough.mono _ _
   | exact spec_HeardEnough.mono _ _ _ _ _
   | exact LeO.none _
   | refine LeO.ite ?_ ?_
   | refine LeO.bind ?_ (fun _ => ?_)
set_option maxHeartbeats 8000000 in
set_option maxRecDepth 100000 in
theorem laws_FnHeard.calls (k : Nat) (A0 : Option Addr) (c0 : Nat) (l0 : List Int) (A1 : Option Addr) (c1 : Nat) (l1 : List Int) (r : Bool) (w : World) (hr0 : Kd.C (Kd.int .u8) w A0 l0.length l0) (hc0 : l0.length ≤ c0) (hr1 : Kd.C (Kd.int .u8) w A1 l1.length l1) (hc1 : l1.length ≤ c1) (hT0 : r = true) (h : laws_FnHeard.f k l0 l1 = some r) :
  Calls Try.prog 12 #[.slice A0 l0.length c0, .slice A1 l1.length c1] w fun e w' => e = .returned (.bool r) ∧ Below w.heap.size w w' := by
 have hT := am hT0
 clear hT0
 have HR0 := am hr0
 have HC0 := am hc0
 clear hr0 hc0
 have HR1 := am hr1
 have HC1 := am hc1
 clear hr1 hc1
 have HB := am (Below.refl w.heap.size w)
 have H : ((laws_c2Big.f l0 l1).bind fun t368 => (if t368 = true then (some true) else ((spec_DrawHeardEnough.f k l0).bind fun bt369 => ((impl_HeardEnough.f k bt369.1 bt369.2.1 bt369.2.2.1 bt369.2.2.2).bind fun t377 => ((spec_HeardEnough.f k bt369.1 bt369.2.1 bt369.2.2.1 bt369.2.2.2).bind fun t378 => (if (t377 != t378) = true then (some false) else ((laws_c2At.f l1 0 16).bind fun t379 => (laws_FnHeard.l0 k bt369.1 bt369.2.1 bt369.2.2.1 bt369.2.2.2 t377 t379 (([] : List Int)) false 0)))))))) = some r := h
 clear h
 replace H := Option.bind_eq_some_iff.mp H
 obtain ⟨t368, A30, H⟩ := H
 replace H : (if t368 = true then (some true) else ((spec_DrawHeardEnough.f k l0).bind fun bt369 => ((impl_HeardEnough.f k bt369.1 bt369.2.1 bt369.2.2.1 bt369.2.2.2).bind fun t377 => ((spec_HeardEnough.f k bt369.1 bt369.2.1 bt369.2.2.1 bt369.2.2.2).bind fun t378 => (if (t377 != t378) = true then (some false) else ((laws_c2At.f l1 0 16).bind fun t379 => (laws_FnHeard.l0 k bt369.1 bt369.2.1 bt369.2.2.1 bt369.2.2.2 t377 t379 (([] : List Int)) false 0))))))) = some r := H
 have A3 := am A30
 clear A30
 by_cases c4 : t368 = true
 ·subst c4
  have H1 : (some true) = some r := by rw [if_pos rfl] at H; exact H
  clear H
  have H := H1
  clear H1
  obtain rfl := Option.some.inj H
  go_enter Try.func12, Try.ntmps12
  go_wp2_with (first | ((with_reducible refine gate_callee (f := 43) rfl ?_); refine goesL_ (some 16) rfl rfl Try.func43 (by kernel_rfl) rfl #[.slice A0 l0.length c0, .slice A1 l1.length c1] rfl (by (try simp only [mta, mco, mni]); first | done | rfl | (simp only [lnd, lnt]; rfl)) ?_; (with_reducible refine (laws_c2Big.calls _ _ l0 _ _ l1 true _ ?side1 ?side2 ?side3 ?side4 A3.out).mono ?_); (case side1 => repeat (first | exact HR0.out | (with_reducible first | apply kca | apply kcn | apply kcd))); (case side2 => exact HC0.out); (case side3 => repeat (first | exact HR1.out | (with_reducible first | apply kca | apply kcn | apply kcd))); (case side4 => exact HC1.out); rintro e w' ⟨rfl, ⟨nd, rfl⟩⟩; refine ⟨_, rfl, ?_⟩))
  go_ret
  exact ⟨by first | rfl | (simp [errW_none, errW_some] <;> rfl) | (simp [*, errW_none, errW_some] <;> rfl), by repeat (first | (with_reducible first | exact HB.out | apply bal | apply pdn | apply bd1) | exact HB.out)⟩
 ·replace c4 := Bool.eq_false_iff.mpr c4
  subst c4
  have H1 : ((spec_DrawHeardEnough.f k l0).bind fun bt369 => ((impl_HeardEnough.f k bt369.1 bt369.2.1 bt369.2.2.1 bt369.2.2.2).bind fun t377 => ((spec_HeardEnough.f k bt369.1 bt369.2.1 bt369.2.2.1 bt369.2.2.2).bind fun t378 => (if (t377 != t378) = true then (some false) else ((laws_c2At.f l1 0 16).bind fun t379 => (laws_FnHeard.l0 k bt369.1 bt369.2.1 bt369.2.2.1 bt369.2.2.2 t377 t379 (([] : List Int)) false 0)))))) = some r := by rw [if_neg (show ¬ (false = true) by decide)] at H; exact H
  clear H
  have H := H1
  clear H1
  replace H := Option.bind_eq_some_iff.mp H
  obtain ⟨⟨t369, t370, t371, t372⟩, A50, H⟩ := H
  replace H : ((impl_HeardEnough.f k t369 t370 t371 t372).bind fun t377 => ((spec_HeardEnough.f k t369 t370 t371 t372).bind fun t378 => (if (t377 != t378) = true then (some false) else ((laws_c2At.f l1 0 16).bind fun t379 => (laws_FnHeard.l0 k t369 t370 t371 t372 t377 t379 (([] : List Int)) false 0))))) = some r := H
  have A5 := am A50
  clear A50
  replace H := Option.bind_eq_some_iff.mp H
  obtain ⟨t377, A60, H⟩ := H
  replace H : ((spec_HeardEnough.f k t369 t370 t371 t372).bind fun t378 => (if (t377 != t378) = true then (some false) else ((laws_c2At.f l1 0 16).bind fun t379 => (laws_FnHeard.l0 k t369 t370 t371 t372 t377 t379 (([] : List Int)) false 0)))) = some r := H
  have A6 := am A60
  clear A60
  replace H := Option.bind_eq_some_iff.mp H
  obtain ⟨t378, A70, H⟩ := H
  replace H : (if (t377 != t378) = true then (some false) else ((laws_c2At.f l1 0 16).bind fun t379 => (laws_FnHeard.l0 k t369 t370 t371 t372 t377 t379 (([] : List Int)) false 0))) = some r := H
  have A7 := am A70
  clear A70
  by_cases c8 : (t377 != t378) = true
  ·rw [if_pos c8] at H
   have c8b0 : (t377 != t378) = true := c8
   (try (have c8b1 : decide (t377 = t378) = false := by simpa using c8))
   (try (have c8b2 : (t377 == t378) = false := by simpa using c8))
   (try (have c8b3 : ¬ (t377 = t378) := by simpa using c8))
   clear c8
   exact absurd ((Option.some.inj H).trans hT.out) (by decide)
  ·rw [if_neg c8] at H
   have c8b0 : (t377 != t378) = false := by simpa using c8
   (try (have c8b1 : decide (t377 = t378) = true := by simpa using c8))
   (try (have c8b2 : (t377 == t378) = true := by simpa using c8))
   clear c8
   replace H := Option.bind_eq_some_iff.mp H
   obtain ⟨t379, A90, H⟩ := H
   replace H : (laws_FnHeard.l0 k t369 t370 t371 t372 t377 t379 (([] : List Int)) false 0) = some r := H
   have A9 := am A90
   clear A90
   obtain ⟨y380, hy380⟩ : ∃ y_ : List Int, y_ = (([] : List Int)) := ⟨_, rfl⟩
   replace H : (laws_FnHeard.l0 k t369 t370 t371 t372 t377 t379 y380 false 0) = some r := by first | (rw [hy380]; with_reducible exact H) | (have H2_ := (Option.bind_some _ _).symm.trans H; rw [hy380]; with_reducible exact H2_) | (have H2_ := (Option.bind_some _ _).symm.trans H; with_reducible exact H2_) | with_reducible exact H | (rw [hy380]; exact H) | exact H
   have Ny380 := am hy380
   clear hy380
   have H' := am H
   clear H
   go_enter Try.func12, Try.ntmps12
   go_wp2_with (first | ((with_reducible refine gate_callee (f := 43) rfl ?_); refine goesL_ (some 16) rfl rfl Try.func43 (by kernel_rfl) rfl #[.slice A0 l0.length c0, .slice A1 l1.length c1] rfl (by (try simp only [mta, mco, mni]); first | done | rfl | (simp only [lnd, lnt]; rfl)) ?_; (with_reducible refine (laws_c2Big.calls _ _ l0 _ _ l1 false _ ?side1 ?side2 ?side3 ?side4 A3.out).mono ?_); (case side1 => repeat (first | exact HR0.out | (with_reducible first | apply kca | apply kcn | apply kcd))); (case side2 => exact HC0.out); (case side3 => repeat (first | exact HR1.out | (with_reducible first | apply kca | apply kcn | apply kcd))); (case side4 => exact HC1.out); rintro e w' ⟨rfl, ⟨nd, rfl⟩⟩; refine ⟨_, rfl, ?_⟩) | ((with_reducible refine gate_callee (f := 44) rfl ?_); refine goesL_ (some 19) rfl rfl Try.func44 (by kernel_rfl) rfl #[.slice A0 l0.length c0] rfl (by (try simp only [mta, mco, mni]); first | done | rfl | (simp only [lnd, lnt]; rfl)) ?_; (with_reducible refine (spec_DrawHeardEnough.calls k _ _ l0 t369 t370 t371 t372 _ ?side1 ?side2 A5.out).mono ?_); (case side1 => repeat (first | exact HR0.out | (with_reducible first | apply kca | apply kcn | apply kcd))); (case side2 => exact HC0.out); rintro e w10 ⟨v373, v375, rfl, ho0, ho1, hb⟩; refine ⟨_, rfl, ?_⟩; have n0_ := am (Kd.S_lower ho0 (below_size (by repeat (first | (with_reducible first | exact HB.out | apply bal | apply pdn | apply bd1) | exact HB.out)))); have n1_ := am (Kd.R_lower ho1 (below_size (by repeat (first | (with_reducible first | exact HB.out | apply bal | apply pdn | apply bd1) | exact HB.out)))); have n2_ := am (below_step (by repeat (first | (with_reducible first | exact HB.out | apply bal | apply pdn | apply bd1) | exact HB.out)) hb); clear HB; have HO374 := n0_; have HO376 := n1_; have HB := n2_; clear n0_ n1_ n2_; (try clear hb); (try clear hb2); (try clear hk); (try clear hi); (try clear ho0); (try clear ho1); obtain ⟨Ao11, co11, eo11⟩ := Kd.S_slice HO374.out; subst eo11; obtain ⟨Ao12, co12, eo12⟩ := Kd.R_slice HO376.out; subst eo12) | ((with_reducible refine gate_callee (f := 42) rfl ?_); refine goesL_ (some 28) rfl rfl Try.func42 (by kernel_rfl) rfl #[.slice Ao11 t369.length co11, .int .i64 t370, .int .i64 t371, .slice Ao12 t372.length co12] rfl (by (try simp only [mta, mco, mni]); first | done | rfl | (simp only [lnd, lnt]; rfl)) ?_; (with_reducible refine (impl_HeardEnough.calls k _ _ t369 t370 t371 _ _ t372 t377 _ ?side1 ?side2 ?side3 ?side4 A6.out).mono ?_); (case side1 => repeat (first | exact (Kd.S_reads' HO374.out).2.2 | (with_reducible first | apply kca | apply kcn | apply kcd))); (case side2 => exact (Kd.S_reads' HO374.out).2.1); (case side3 => repeat (first | exact (Kd.R_reads' HO376.out).2.2 | (with_reducible first | apply kca | apply kcn | apply kcd))); (case side4 => exact (Kd.R_reads' HO376.out).2.1); rintro e w13 ⟨rfl, hb⟩; refine ⟨_, rfl, ?_⟩; have n0_ := am (Kd.S_below (by (with_reducible repeat (first | apply Kd.S_alloc | apply Kd.S_drewN | apply Kd.S_drew)); exact HO374.out) hb); have n1_ := am (krb (by (with_reducible repeat (first | apply kra | apply krn | apply krd)); exact HO376.out) hb); have n2_ := am (below_step (by repeat (first | (with_reducible first | exact HB.out | apply bal | apply pdn | apply bd1) | exact HB.out)) hb); clear HO374; clear HO376; clear HB; have HO374 := n0_; have HO376 := n1_; have HB := n2_; clear n0_ n1_ n2_; (try clear hb); (try clear hb2); (try clear hk); (try clear hi)) | ((with_reducible refine gate_callee (f := 41) rfl ?_); refine goesL_ (some 34) rfl rfl Try.func41 (by kernel_rfl) rfl #[.slice Ao11 t369.length co11, .int .i64 t370, .int .i64 t371, .slice Ao12 t372.length co12] rfl (by (try simp only [mta, mco, mni]); first | done | rfl | (simp only [lnd, lnt]; rfl)) ?_; (with_reducible refine (spec_HeardEnough.calls k _ _ t369 t370 t371 _ _ t372 t378 _ ?side1 ?side2 ?side3 ?side4 A7.out).mono ?_); (case side1 => repeat (first | exact (Kd.S_reads' HO374.out).2.2 | (with_reducible first | apply kca | apply kcn | apply kcd))); (case side2 => exact (Kd.S_reads' HO374.out).2.1); (case side3 => repeat (first | exact (Kd.R_reads' HO376.out).2.2 | (with_reducible first | apply kca | apply kcn | apply kcd))); (case side4 => exact (Kd.R_reads' HO376.out).2.1); rintro e w14 ⟨rfl, hb⟩; refine ⟨_, rfl, ?_⟩; have n0_ := am (Kd.S_below (by (with_reducible repeat (first | apply Kd.S_alloc | apply Kd.S_drewN | apply Kd.S_drew)); exact HO374.out) hb); have n1_ := am (krb (by (with_reducible repeat (first | apply kra | apply krn | apply krd)); exact HO376.out) hb); have n2_ := am (below_step (by repeat (first | (with_reducible first | exact HB.out | apply bal | apply pdn | apply bd1) | exact HB.out)) hb); clear HO374; clear HO376; clear HB; have HO374 := n0_; have HO376 := n1_; have HB := n2_; clear n0_ n1_ n2_; (try clear hb); (try clear hb2); (try clear hk); (try clear hi)) | ((with_reducible refine gate_callee (f := 45) rfl ?_); refine goesL_ (some 37) rfl rfl Try.func45 (by kernel_rfl) rfl #[.slice A1 l1.length c1, .int .i64 0, .int .i64 16] rfl (by (try simp only [mta, mco, mni]); first | done | rfl | (simp only [lnd, lnt]; rfl)) ?_; (with_reducible refine (laws_c2At.calls _ _ l1 0 16 t379 _ ?side1 ?side2 A9.out).mono ?_); (case side1 => repeat (first | exact (Kd.C_below HR1.out HB.out) | (with_reducible first | apply kca | apply kcn | apply kcd))); (case side2 => exact HC1.out); rintro e w' ⟨rfl, ⟨nd, rfl⟩⟩; refine ⟨_, rfl, ?_⟩) | ((with_reducible refine gate_dst (N := 38) rfl ?_); refine Kd.R_lit (Kd.int .i64) _ 2 ?hg (N := 38) ?hd (xs := ([] : List Int)) (inner := []) (ok := fun _ => True) (okp := fun _ => True) ?hr ?hp (fun _ hk => hk) trivial (Below.refl _ _) (Nat.le_refl _) (by simp) ?_; (case hd => rfl); (case hg => rfl); (case hr => first | (go_simp; done) | (go_simp; rfl)); (case hp => exact (Reps.none _ _)); intro v381 w15 ho16 hb hg_ hnew_; clear hg_ hnew_; (first | rw [← Ny380.out] at ho16 | (simp only [Int.reduceToNat] at ho16; rw [← Ny380.out] at ho16)); have n0_ := am (Kd.S_elder' (by (with_reducible repeat (first | apply Kd.S_alloc | apply Kd.S_drewN | apply Kd.S_drew)); exact HO374.out) (Kd.R_base ho16) hb); have n1_ := am (kre (by (with_reducible repeat (first | apply kra | apply krn | apply krd)); exact HO376.out) (Kd.R_base ho16) hb); have n2_ := am (Kd.R_lower (Kd.R_new' ho16 (Kd.R_lt (by (with_reducible repeat (first | apply kra | apply krn | apply krd)); exact HO376.out))) (below_size (by repeat (first | (with_reducible first | exact HB.out | apply bal | apply pdn | apply bd1) | exact HB.out)))); have n3_ := am (below_step (by repeat (first | (with_reducible first | exact HB.out | apply bal | apply pdn | apply bd1) | exact HB.out)) hb); clear HO374; clear HO376; clear HB; have HO374 := n0_; have HO376 := n1_; have HO382 := n2_; have HB := n3_; clear n0_ n1_ n2_ n3_; clear hb ho16))
   go_loopg [11, 12, 13] k (fun kq v11 v12 v13 w' => ∃ (x11_1 : List Int) (x12_1 : Bool) (x13_1 : Int), v12 = .bool x12_1 ∧ v13 = .int .i64 x13_1 ∧ Aside0 (laws_FnHeard.l0 kq t369 t370 t371 t372 t377 t379 x11_1 x12_1 x13_1 = some r) ∧ Aside0 (kq ≤ k) ∧ Aside0 (Kd.S k43 43 w' w.heap.size (fun k_ => some k_ ≠ ((.slice Ao12 t372.length co12) : Value).ownBlock ∧ some k_ ≠ (v11 : Value).ownBlock) (.slice Ao11 t369.length co11) t369) ∧ Aside0 (Kd.R (Kd.int .i64) 2 w' w.heap.size (fun k_ => some k_ ≠ (v11 : Value).ownBlock) (.slice Ao12 t372.length co12) t372) ∧ Aside0 (Kd.R (Kd.int .i64) 2 w' w.heap.size (fun k_ => some k_ ≠ ((.slice Ao12 t372.length co12) : Value).ownBlock) v11 x11_1) ∧ Aside0 (Below w.heap.size w w'))
   case atStart => exact ⟨(y380), (false), (0), (by first | rfl | (simp; done) | (simp [*]; done)), (by first | rfl | (simp; done) | (simp [*]; done)), H', ⟨Nat.le_refl _⟩, ⟨by (with_reducible repeat (first | apply Kd.S_alloc | apply Kd.S_drewN | apply Kd.S_drew)); exact HO374.out⟩, ⟨by (with_reducible repeat (first | apply kra | apply krn | apply krd)); exact Kd.R_mono HO376.out (fun _ hk => hk.2)⟩, ⟨by (with_reducible repeat (first | apply kra | apply krn | apply krd)); exact Kd.R_mono HO382.out (fun _ hk => hk.2)⟩, ⟨by repeat (first | (with_reducible first | exact HB.out | apply bal | apply pdn | apply bd1) | exact HB.out)⟩⟩
   case round =>
    clear H'
    obtain ⟨x11_1, x12_1, x13_1, rfl, rfl, HA, HK1, HO_5, HO_8, HO_11, HB⟩ := hrel
    cases gk with
    | zero => exact absurd HA.out (by simp [laws_FnHeard.l0])
    | succ k1 =>
     have H := HA.out
     clear HA
     simp only [laws_FnHeard.l0] at H
     by_cases c17 : x13_1 < (t372.length : Int)
     ·rw [if_pos c17] at H
      have c17b0 : decide (x13_1 < (t372.length : Int)) = true := decide_eq_true c17
      clear c17
      have HC18 := am H
      clear H
      go_upto_region 13 with (fail)
      go_cut [54] (fun v54 wc => ∃ (kq : Nat) (x54_17 : Bool), v54 = .bool x54_17 ∧ Aside0 (laws_FnHeard.j1 kq t369 t370 t371 t372 t377 t379 x11_1 x12_1 x13_1 x54_17 = some r) ∧ Aside0 (kq ≤ k1) ∧ Aside0 (Kd.S k43 43 wc w.heap.size (fun k_ => some k_ ≠ ((.slice Ao12 t372.length co12) : Value).ownBlock ∧ some k_ ≠ (u11 : Value).ownBlock) (.slice Ao11 t369.length co11) t369) ∧ Aside0 (Kd.R (Kd.int .i64) 2 wc w.heap.size (fun k_ => some k_ ≠ (u11 : Value).ownBlock) (.slice Ao12 t372.length co12) t372) ∧ Aside0 (Kd.R (Kd.int .i64) 2 wc w.heap.size (fun k_ => some k_ ≠ ((.slice Ao12 t372.length co12) : Value).ownBlock) u11 x11_1) ∧ Aside0 (Below w.heap.size w wc))
      case first =>
       have H := HC18.out
       clear HC18
       by_cases c19 : x12_1 = true
       ·subst c19
        have H1 : (laws_FnHeard.j1 k1 t369 t370 t371 t372 t377 t379 x11_1 true x13_1 false) = some r := by rw [if_pos rfl] at H; exact H
        clear H
        have H := H1
        clear H1
        have H' := am H
        clear H
        go_wp2
        go_meet
        case rel => exact ⟨_, (false), (by first | rfl | (simp; done) | (simp [*]; done)), H', ⟨by have := HK1.out; first | omega | exact Nat.le_refl _⟩, ⟨by (with_reducible repeat (first | apply Kd.S_alloc | apply Kd.S_drewN | apply Kd.S_drew)); exact HO_5.out⟩, ⟨by (with_reducible repeat (first | apply kra | apply krn | apply krd)); exact HO_8.out⟩, ⟨by (with_reducible repeat (first | apply kra | apply krn | apply krd)); exact HO_11.out⟩, ⟨by repeat (first | (with_reducible first | exact HB.out | apply bal | apply pdn | apply bd1) | exact HB.out)⟩⟩
       ·replace c19 := Bool.eq_false_iff.mpr c19
        subst c19
        have H1 : (if 0 ≤ x13_1 then (laws_FnHeard.j1 k1 t369 t370 t371 t372 t377 t379 x11_1 false x13_1 (decide ((rd t372 x13_1) ≥ t379))) else (none)) = some r := by rw [if_neg (show ¬ (false = true) by decide)] at H; exact H
        clear H
        have H := H1
        clear H1
        by_cases c20 : 0 ≤ x13_1
        ·rw [if_pos c20] at H
         have c20b0 : decide (0 ≤ x13_1) = true := decide_eq_true c20
         clear c20
         (first | rw [c20b0] | (simp only [i64_w, i32_w]; rw [c20b0]) | skip)
         have H' := am H
         clear H
         have p383 : 0 ≤ (x13_1 : Int) := of_decide_eq_true (by first | (with_reducible assumption) | assumption)
         have q383 : x13_1 < (t372.length : Int) := of_decide_eq_true (by first | (with_reducible assumption) | assumption)
         obtain ⟨ad383, e383, hx383_0⟩ := Kd.at_int (Kd.R_reads' HO_8.out).2.2 x13_1 p383 q383
         cases e383
         replace p383 := eq_true p383
         replace q383 := eq_true q383
         go_wp2
         go_meet
         case rel => exact ⟨_, (decide ((rd t372 x13_1) ≥ t379)), (by first | rfl | (simp; done) | (simp [*]; done)), H', ⟨by have := HK1.out; first | omega | exact Nat.le_refl _⟩, ⟨by (with_reducible repeat (first | apply Kd.S_alloc | apply Kd.S_drewN | apply Kd.S_drew)); exact HO_5.out⟩, ⟨by (with_reducible repeat (first | apply kra | apply krn | apply krd)); exact HO_8.out⟩, ⟨by (with_reducible repeat (first | apply kra | apply krn | apply krd)); exact HO_11.out⟩, ⟨by repeat (first | (with_reducible first | exact HB.out | apply bal | apply pdn | apply bd1) | exact HB.out)⟩⟩
        ·rw [if_neg c20] at H
         exact absurd H (by simp)
      case rest =>
       clear HC18
       obtain ⟨kq, x54_17, rfl, HA, HJ17, HO_5, HO_8, HO_11, HB⟩ := hcut
       cases kq with
       | zero => exact absurd HA.out (by simp [laws_FnHeard.j1])
       | succ kj17 =>
        have H := HA.out
        clear HA
        simp only [laws_FnHeard.j1] at H
        by_cases c21 : x54_17 = true
        ·subst c21
         have H1 : (if 0 ≤ x13_1 then (if x13_1 < (t372.length : Int) then (if (rd t372 x13_1) > t379 then (if x11_1.length < 17592186044416 then ((some (x11_1 ++ [t379] : List Int)).bind fun y385 => (if y385.length < 17592186044416 then (laws_FnHeard.l0 kj17 t369 t370 t371 t372 t377 t379 (y385 ++ [rd t372 x13_1]) true (wrap64 (x13_1 + 1))) else (none))) else (none)) else (if x11_1.length < 17592186044416 then (laws_FnHeard.l0 kj17 t369 t370 t371 t372 t377 t379 (x11_1 ++ [rd t372 x13_1]) true (wrap64 (x13_1 + 1))) else (none))) else (none)) else (none)) = some r := by rw [if_pos rfl] at H; exact H
         clear H
         have H := H1
         clear H1
         by_cases c22 : 0 ≤ x13_1
         ·rw [if_pos c22] at H
          have c22b0 : decide (0 ≤ x13_1) = true := decide_eq_true c22
          clear c22
          by_cases c23 : x13_1 < (t372.length : Int)
          ·rw [if_pos c23] at H
           have c23b0 : decide (x13_1 < (t372.length : Int)) = true := decide_eq_true c23
           clear c23
           by_cases c24 : (rd t372 x13_1) > t379
           ·rw [if_pos c24] at H
            have c24b0 : decide (t379 < (rd t372 x13_1)) = true := decide_eq_true c24
            clear c24
            by_cases c25 : x11_1.length < 17592186044416
            ·rw [if_pos c25] at H
             have LMc25 := am c25
             clear c25
             obtain ⟨y385, hy385⟩ : ∃ y_ : List Int, y_ = (x11_1 ++ [t379]) := ⟨_, rfl⟩
             replace H : (if y385.length < 17592186044416 then (laws_FnHeard.l0 kj17 t369 t370 t371 t372 t377 t379 (y385 ++ [rd t372 x13_1]) true (wrap64 (x13_1 + 1))) else (none)) = some r := by first | (rw [hy385]; with_reducible exact H) | (have H2_ := (Option.bind_some _ _).symm.trans H; rw [hy385]; with_reducible exact H2_) | (have H2_ := (Option.bind_some _ _).symm.trans H; with_reducible exact H2_) | with_reducible exact H | (rw [hy385]; exact H) | exact H
             have Ny385 := am hy385
             clear hy385
             by_cases c26 : y385.length < 17592186044416
             ·rw [if_pos c26] at H
              have LMc26 := am c26
              clear c26
              obtain ⟨y389, hy389⟩ : ∃ y_ : List Int, y_ = (y385 ++ [rd t372 x13_1]) := ⟨_, rfl⟩
              replace H : (laws_FnHeard.l0 kj17 t369 t370 t371 t372 t377 t379 y389 true (wrap64 (x13_1 + 1))) = some r := by first | (rw [hy389]; with_reducible exact H) | (have H2_ := (Option.bind_some _ _).symm.trans H; rw [hy389]; with_reducible exact H2_) | (have H2_ := (Option.bind_some _ _).symm.trans H; with_reducible exact H2_) | with_reducible exact H | (rw [hy389]; exact H) | exact H
              have Ny389 := am hy389
              clear hy389
              have H' := am H
              clear H
              have p384 : 0 ≤ (x13_1 : Int) := of_decide_eq_true (by first | (with_reducible assumption) | assumption)
              have q384 : x13_1 < (t372.length : Int) := of_decide_eq_true (by first | (with_reducible assumption) | assumption)
              obtain ⟨ad384, e384, hx384_0⟩ := Kd.at_int (Kd.R_reads' HO_8.out).2.2 x13_1 p384 q384
              cases e384
              replace p384 := eq_true p384
              replace q384 := eq_true q384
              go_wp2_with (first | ((with_reducible refine gate_builtin (b := .append) (xs := #[.tmp 61, .tmp 63]) rfl ?_); at_builtin; refine Kd.R_append (Kd.int .i64) (w0 := w) w.heap.size rfl (.tmp 61) (.tmp 63) 22 2 (.int .i64 0) 8 rfl Try.underlying22 info2 rfl (by decide) (by omega) u11 x11_1 t379 [.int .i64 t379] (fun k_ => some k_ ≠ (.slice (some ad384) t372.length co12 : Value).ownBlock) (fun _ => False) rfl rfl ?aP (fun _ hk => hk.elim) ?aF ?aO ?aB ?aS ?aL ?_; (case aP => exact rfl); (case aB => exact (by repeat (first | (with_reducible first | exact HB.out | apply bal | apply pdn | apply bd1) | exact HB.out))); (case aF => exact (fun k_ hk => Kd.fresh' (Kd.R_lt (by (with_reducible repeat (first | apply kra | apply krn | apply krd)); exact HO_8.out)) k_ hk)); (case aO => exact (by (with_reducible repeat (first | apply kra | apply krn | apply krd)); exact HO_11.out)); (case aS => exact (below_size (by repeat (first | (with_reducible first | exact HB.out | apply bal | apply pdn | apply bd1) | exact HB.out)))); (case aL => have := LMc25.out; omega); intro v386 w27 ho hb hg hat; rw [← Ny385.out] at ho; have n0_ := am (Kd.S_after (ok := (fun k_ => some k_ ≠ (.slice (some ad384) t372.length co12 : Value).ownBlock)) (by (with_reducible repeat (first | apply Kd.S_alloc | apply Kd.S_drewN | apply Kd.S_drew)); exact HO_5.out) hg hat); have n1_ := am (Kd.R_after (ok := (fun _ => True)) (by (with_reducible repeat (first | apply kra | apply krn | apply krd)); exact Kd.R_mono HO_8.out (fun _ hk => ⟨trivial, hk⟩)) hg hat); have n2_ := am (hb); have n3_ := am (ho); clear HO_5; clear HO_8; clear HB; clear HO_11; have HO_5 := n0_; have HO_8 := n1_; have HB := n2_; have HO387 := n3_; clear n0_ n1_ n2_ n3_; clear ho hb hg hat; have p388 : 0 ≤ (x13_1 : Int) := of_decide_eq_true (by first | (with_reducible assumption) | assumption); have q388 : x13_1 < (t372.length : Int) := of_decide_eq_true (by first | (with_reducible assumption) | assumption); obtain ⟨ad388, e388, hx388_0⟩ := Kd.at_int (Kd.R_reads' HO_8.out).2.2 x13_1 p388 q388; obtain rfl : ad384 = ad388 := (by injection e388); replace p388 := eq_true p388; replace q388 := eq_true q388) | ((with_reducible refine gate_builtin (b := .append) (xs := #[.tmp 65, .tmp 70]) rfl ?_); at_builtin; refine Kd.R_append (Kd.int .i64) (w0 := w) w.heap.size rfl (.tmp 65) (.tmp 70) 22 2 (.int .i64 0) 8 rfl Try.underlying22 info2 rfl (by decide) (by omega) v386 y385 (rd t372 x13_1) [.int .i64 (rd t372 x13_1)] (fun k_ => some k_ ≠ (.slice (some ad384) t372.length co12 : Value).ownBlock) (fun _ => False) rfl rfl ?aP (fun _ hk => hk.elim) ?aF ?aO ?aB ?aS ?aL ?_; (case aP => exact rfl); (case aB => exact (by repeat (first | (with_reducible first | exact HB.out | apply bal | apply pdn | apply bd1) | exact HB.out))); (case aF => exact (fun k_ hk => Kd.fresh' (Kd.R_lt (by (with_reducible repeat (first | apply kra | apply krn | apply krd)); exact HO_8.out)) k_ hk)); (case aO => exact (by (with_reducible repeat (first | apply kra | apply krn | apply krd)); exact HO387.out)); (case aS => exact (below_size (by repeat (first | (with_reducible first | exact HB.out | apply bal | apply pdn | apply bd1) | exact HB.out)))); (case aL => have := LMc26.out; omega); intro v390 w28 ho hb hg hat; rw [← Ny389.out] at ho; have n0_ := am (Kd.S_after (ok := (fun k_ => some k_ ≠ (.slice (some ad384) t372.length co12 : Value).ownBlock)) (by (with_reducible repeat (first | apply Kd.S_alloc | apply Kd.S_drewN | apply Kd.S_drew)); exact HO_5.out) hg hat); have n1_ := am (Kd.R_after (ok := (fun _ => True)) (by (with_reducible repeat (first | apply kra | apply krn | apply krd)); exact HO_8.out) hg hat); have n2_ := am (hb); have n3_ := am (ho); clear HO_5; clear HO_8; clear HB; clear HO387; have HO_5 := n0_; have HO_8 := n1_; have HB := n2_; have HO391 := n3_; clear n0_ n1_ n2_ n3_; clear ho hb hg hat))
              go_roundg kj17
              case measure => have := HK1.out; have := HJ17.out; omega
              case rel => exact ⟨(y389), (true), (wrap64 (x13_1 + 1)), (by first | rfl | (simp; done) | (simp [*]; done)), (by first | rfl | (simp; done) | (simp [*]; done)), H', ⟨by have := HK1.out; have := HJ17.out; omega⟩, ⟨by (with_reducible repeat (first | apply Kd.S_alloc | apply Kd.S_drewN | apply Kd.S_drew)); exact HO_5.out⟩, ⟨by (with_reducible repeat (first | apply kra | apply krn | apply krd)); exact Kd.R_mono HO_8.out (fun _ hk => hk.2)⟩, ⟨by (with_reducible repeat (first | apply kra | apply krn | apply krd)); exact HO391.out⟩, ⟨by repeat (first | (with_reducible first | exact HB.out | apply bal | apply pdn | apply bd1) | exact HB.out)⟩⟩
             ·rw [if_neg c26] at H
              exact absurd H (by simp)
            ·rw [if_neg c25] at H
             exact absurd H (by simp)
           ·rw [if_neg c24] at H
            have c24b0 : decide (t379 < (rd t372 x13_1)) = false := decide_eq_false c24
            clear c24
            by_cases c29 : x11_1.length < 17592186044416
            ·rw [if_pos c29] at H
             have LMc29 := am c29
             clear c29
             obtain ⟨y393, hy393⟩ : ∃ y_ : List Int, y_ = (x11_1 ++ [rd t372 x13_1]) := ⟨_, rfl⟩
             replace H : (laws_FnHeard.l0 kj17 t369 t370 t371 t372 t377 t379 y393 true (wrap64 (x13_1 + 1))) = some r := by first | (rw [hy393]; with_reducible exact H) | (have H2_ := (Option.bind_some _ _).symm.trans H; rw [hy393]; with_reducible exact H2_) | (have H2_ := (Option.bind_some _ _).symm.trans H; with_reducible exact H2_) | with_reducible exact H | (rw [hy393]; exact H) | exact H
             have Ny393 := am hy393
             clear hy393
             have H' := am H
             clear H
             have p384 : 0 ≤ (x13_1 : Int) := of_decide_eq_true (by first | (with_reducible assumption) | assumption)
             have q384 : x13_1 < (t372.length : Int) := of_decide_eq_true (by first | (with_reducible assumption) | assumption)
             obtain ⟨ad384, e384, hx384_0⟩ := Kd.at_int (Kd.R_reads' HO_8.out).2.2 x13_1 p384 q384
             cases e384
             replace p384 := eq_true p384
             replace q384 := eq_true q384
             have p392 : 0 ≤ (x13_1 : Int) := of_decide_eq_true (by first | (with_reducible assumption) | assumption)
             have q392 : x13_1 < (t372.length : Int) := of_decide_eq_true (by first | (with_reducible assumption) | assumption)
             obtain ⟨ad392, e392, hx392_0⟩ := Kd.at_int (Kd.R_reads' HO_8.out).2.2 x13_1 p392 q392
             obtain rfl : ad384 = ad392 := (by injection e392)
             replace p392 := eq_true p392
             replace q392 := eq_true q392
             go_wp2_with (first | ((with_reducible refine gate_builtin (b := .append) (xs := #[.tmp 65, .tmp 70]) rfl ?_); at_builtin; refine Kd.R_append (Kd.int .i64) (w0 := w) w.heap.size rfl (.tmp 65) (.tmp 70) 22 2 (.int .i64 0) 8 rfl Try.underlying22 info2 rfl (by decide) (by omega) u11 x11_1 (rd t372 x13_1) [.int .i64 (rd t372 x13_1)] (fun k_ => some k_ ≠ (.slice (some ad384) t372.length co12 : Value).ownBlock) (fun _ => False) rfl rfl ?aP (fun _ hk => hk.elim) ?aF ?aO ?aB ?aS ?aL ?_; (case aP => exact rfl); (case aB => exact (by repeat (first | (with_reducible first | exact HB.out | apply bal | apply pdn | apply bd1) | exact HB.out))); (case aF => exact (fun k_ hk => Kd.fresh' (Kd.R_lt (by (with_reducible repeat (first | apply kra | apply krn | apply krd)); exact HO_8.out)) k_ hk)); (case aO => exact (by (with_reducible repeat (first | apply kra | apply krn | apply krd)); exact HO_11.out)); (case aS => exact (below_size (by repeat (first | (with_reducible first | exact HB.out | apply bal | apply pdn | apply bd1) | exact HB.out)))); (case aL => have := LMc29.out; omega); intro v394 w30 ho hb hg hat; rw [← Ny393.out] at ho; have n0_ := am (Kd.S_after (ok := (fun k_ => some k_ ≠ (.slice (some ad384) t372.length co12 : Value).ownBlock)) (by (with_reducible repeat (first | apply Kd.S_alloc | apply Kd.S_drewN | apply Kd.S_drew)); exact HO_5.out) hg hat); have n1_ := am (Kd.R_after (ok := (fun _ => True)) (by (with_reducible repeat (first | apply kra | apply krn | apply krd)); exact Kd.R_mono HO_8.out (fun _ hk => ⟨trivial, hk⟩)) hg hat); have n2_ := am (hb); have n3_ := am (ho); clear HO_5; clear HO_8; clear HB; clear HO_11; have HO_5 := n0_; have HO_8 := n1_; have HB := n2_; have HO395 := n3_; clear n0_ n1_ n2_ n3_; clear ho hb hg hat))
             go_roundg kj17
             case measure => have := HK1.out; have := HJ17.out; omega
             case rel => exact ⟨(y393), (true), (wrap64 (x13_1 + 1)), (by first | rfl | (simp; done) | (simp [*]; done)), (by first | rfl | (simp; done) | (simp [*]; done)), H', ⟨by have := HK1.out; have := HJ17.out; omega⟩, ⟨by (with_reducible repeat (first | apply Kd.S_alloc | apply Kd.S_drewN | apply Kd.S_drew)); exact HO_5.out⟩, ⟨by (with_reducible repeat (first | apply kra | apply krn | apply krd)); exact Kd.R_mono HO_8.out (fun _ hk => hk.2)⟩, ⟨by (with_reducible repeat (first | apply kra | apply krn | apply krd)); exact HO395.out⟩, ⟨by repeat (first | (with_reducible first | exact HB.out | apply bal | apply pdn | apply bd1) | exact HB.out)⟩⟩
            ·rw [if_neg c29] at H
             exact absurd H (by simp)
          ·rw [if_neg c23] at H
           exact absurd H (by simp)
         ·rw [if_neg c22] at H
          exact absurd H (by simp)
        ·replace c21 := Bool.eq_false_iff.mpr c21
         subst c21
         have H1 : (if 0 ≤ x13_1 then (if x13_1 < (t372.length : Int) then (if x11_1.length < 17592186044416 then (laws_FnHeard.l0 kj17 t369 t370 t371 t372 t377 t379 (x11_1 ++ [rd t372 x13_1]) x12_1 (wrap64 (x13_1 + 1))) else (none)) else (none)) else (none)) = some r := by rw [if_neg (show ¬ (false = true) by decide)] at H; exact H
         clear H
         have H := H1
         clear H1
         by_cases c31 : 0 ≤ x13_1
         ·rw [if_pos c31] at H
          have c31b0 : decide (0 ≤ x13_1) = true := decide_eq_true c31
          clear c31
          by_cases c32 : x13_1 < (t372.length : Int)
          ·rw [if_pos c32] at H
           have c32b0 : decide (x13_1 < (t372.length : Int)) = true := decide_eq_true c32
           clear c32
           by_cases c33 : x11_1.length < 17592186044416
           ·rw [if_pos c33] at H
            have LMc33 := am c33
            clear c33
            obtain ⟨y397, hy397⟩ : ∃ y_ : List Int, y_ = (x11_1 ++ [rd t372 x13_1]) := ⟨_, rfl⟩
            replace H : (laws_FnHeard.l0 kj17 t369 t370 t371 t372 t377 t379 y397 x12_1 (wrap64 (x13_1 + 1))) = some r := by first | (rw [hy397]; with_reducible exact H) | (have H2_ := (Option.bind_some _ _).symm.trans H; rw [hy397]; with_reducible exact H2_) | (have H2_ := (Option.bind_some _ _).symm.trans H; with_reducible exact H2_) | with_reducible exact H | (rw [hy397]; exact H) | exact H
            have Ny397 := am hy397
            clear hy397
            have H' := am H
            clear H
            have p396 : 0 ≤ (x13_1 : Int) := of_decide_eq_true (by first | (with_reducible assumption) | assumption)
            have q396 : x13_1 < (t372.length : Int) := of_decide_eq_true (by first | (with_reducible assumption) | assumption)
            obtain ⟨ad396, e396, hx396_0⟩ := Kd.at_int (Kd.R_reads' HO_8.out).2.2 x13_1 p396 q396
            cases e396
            replace p396 := eq_true p396
            replace q396 := eq_true q396
            go_wp2_with (first | ((with_reducible refine gate_builtin (b := .append) (xs := #[.tmp 65, .tmp 70]) rfl ?_); at_builtin; refine Kd.R_append (Kd.int .i64) (w0 := w) w.heap.size rfl (.tmp 65) (.tmp 70) 22 2 (.int .i64 0) 8 rfl Try.underlying22 info2 rfl (by decide) (by omega) u11 x11_1 (rd t372 x13_1) [.int .i64 (rd t372 x13_1)] (fun k_ => some k_ ≠ (.slice (some ad396) t372.length co12 : Value).ownBlock) (fun _ => False) rfl rfl ?aP (fun _ hk => hk.elim) ?aF ?aO ?aB ?aS ?aL ?_; (case aP => exact rfl); (case aB => exact (by repeat (first | (with_reducible first | exact HB.out | apply bal | apply pdn | apply bd1) | exact HB.out))); (case aF => exact (fun k_ hk => Kd.fresh' (Kd.R_lt (by (with_reducible repeat (first | apply kra | apply krn | apply krd)); exact HO_8.out)) k_ hk)); (case aO => exact (by (with_reducible repeat (first | apply kra | apply krn | apply krd)); exact HO_11.out)); (case aS => exact (below_size (by repeat (first | (with_reducible first | exact HB.out | apply bal | apply pdn | apply bd1) | exact HB.out)))); (case aL => have := LMc33.out; omega); intro v398 w34 ho hb hg hat; rw [← Ny397.out] at ho; have n0_ := am (Kd.S_after (ok := (fun k_ => some k_ ≠ (.slice (some ad396) t372.length co12 : Value).ownBlock)) (by (with_reducible repeat (first | apply Kd.S_alloc | apply Kd.S_drewN | apply Kd.S_drew)); exact HO_5.out) hg hat); have n1_ := am (Kd.R_after (ok := (fun _ => True)) (by (with_reducible repeat (first | apply kra | apply krn | apply krd)); exact Kd.R_mono HO_8.out (fun _ hk => ⟨trivial, hk⟩)) hg hat); have n2_ := am (hb); have n3_ := am (ho); clear HO_5; clear HO_8; clear HB; clear HO_11; have HO_5 := n0_; have HO_8 := n1_; have HB := n2_; have HO399 := n3_; clear n0_ n1_ n2_ n3_; clear ho hb hg hat))
            go_roundg kj17
            case measure => have := HK1.out; have := HJ17.out; omega
            case rel => exact ⟨(y397), (x12_1), (wrap64 (x13_1 + 1)), (by first | rfl | (simp; done) | (simp [*]; done)), (by first | rfl | (simp; done) | (simp [*]; done)), H', ⟨by have := HK1.out; have := HJ17.out; omega⟩, ⟨by (with_reducible repeat (first | apply Kd.S_alloc | apply Kd.S_drewN | apply Kd.S_drew)); exact HO_5.out⟩, ⟨by (with_reducible repeat (first | apply kra | apply krn | apply krd)); exact Kd.R_mono HO_8.out (fun _ hk => hk.2)⟩, ⟨by (with_reducible repeat (first | apply kra | apply krn | apply krd)); exact HO399.out⟩, ⟨by repeat (first | (with_reducible first | exact HB.out | apply bal | apply pdn | apply bd1) | exact HB.out)⟩⟩
           ·rw [if_neg c33] at H
            exact absurd H (by simp)
          ·rw [if_neg c32] at H
           exact absurd H (by simp)
         ·rw [if_neg c31] at H
          exact absurd H (by simp)
     ·rw [if_neg c17] at H
      have c17b0 : decide (x13_1 < (t372.length : Int)) = false := decide_eq_false c17
      clear c17
      by_cases c35 : x12_1 = true
      ·subst c35
       have H1 : (if t377 = true then ((impl_HeardEnough.f k1 t369 t370 t371 x11_1).bind fun t400 => (if t400 = true then (if t370 ≤ 1 then (some true) else ((impl_HeardEnough.f k1 t369 (wrap64 (t370 - 1)) t371 t372).bind fun t401 => (some t401))) else (some false))) else (some true)) = some r := by rw [if_pos rfl] at H; exact H
       clear H
       have H := H1
       clear H1
       by_cases c36 : t377 = true
       ·subst c36
        have H1 : ((impl_HeardEnough.f k1 t369 t370 t371 x11_1).bind fun t400 => (if t400 = true then (if t370 ≤ 1 then (some true) else ((impl_HeardEnough.f k1 t369 (wrap64 (t370 - 1)) t371 t372).bind fun t401 => (some t401))) else (some false))) = some r := by rw [if_pos rfl] at H; exact H
        clear H
        have H := H1
        clear H1
        replace H := Option.bind_eq_some_iff.mp H
        obtain ⟨t400, A370, H⟩ := H
        replace H : (if t400 = true then (if t370 ≤ 1 then (some true) else ((impl_HeardEnough.f k1 t369 (wrap64 (t370 - 1)) t371 t372).bind fun t401 => (some t401))) else (some false)) = some r := H
        have A37 := am A370
        clear A370
        by_cases c38 : t400 = true
        ·subst c38
         have H1 : (if t370 ≤ 1 then (some true) else ((impl_HeardEnough.f k1 t369 (wrap64 (t370 - 1)) t371 t372).bind fun t401 => (some t401))) = some r := by rw [if_pos rfl] at H; exact H
         clear H
         have H := H1
         clear H1
         by_cases c39 : t370 ≤ 1
         ·rw [if_pos c39] at H
          have c39b0 : decide (t370 ≤ 1) = true := decide_eq_true c39
          clear c39
          obtain rfl := Option.some.inj H
          obtain ⟨Ao40, co40, eo40⟩ := Kd.R_slice HO_11.out
          subst eo40
          go_wp2_with (first | (go_at_call 42; (with_reducible refine (impl_HeardEnough.calls k1 _ _ t369 t370 t371 _ _ x11_1 true _ ?side1 ?side2 ?side3 ?side4 A37.out).mono ?_); (case side1 => repeat (first | exact (Kd.S_reads' HO_5.out).2.2 | (with_reducible first | apply kca | apply kcn | apply kcd))); (case side2 => exact (Kd.S_reads' HO_5.out).2.1); (case side3 => repeat (first | exact (Kd.R_reads' HO_11.out).2.2 | (with_reducible first | apply kca | apply kcn | apply kcd))); (case side4 => exact (Kd.R_reads' HO_11.out).2.1); rintro e w41 ⟨rfl, hb⟩; have n0_ := am (Kd.S_below (by (with_reducible repeat (first | apply Kd.S_alloc | apply Kd.S_drewN | apply Kd.S_drew)); exact HO_5.out) hb); have n1_ := am (krb (by (with_reducible repeat (first | apply kra | apply krn | apply krd)); exact HO_8.out) hb); have n2_ := am (krb (by (with_reducible repeat (first | apply kra | apply krn | apply krd)); exact HO_11.out) hb); have n3_ := am (below_step (by repeat (first | (with_reducible first | exact HB.out | apply bal | apply pdn | apply bd1) | exact HB.out)) hb); clear HO_5; clear HO_8; clear HO_11; clear HB; have HO_5 := n0_; have HO_8 := n1_; have HO_11 := n2_; have HB := n3_; clear n0_ n1_ n2_ n3_; (try clear hb); (try clear hb2); (try clear hk); (try clear hi)))
          go_ret
          exact ⟨by first | rfl | (simp [errW_none, errW_some] <;> rfl) | (simp [*, errW_none, errW_some] <;> rfl), by repeat (first | (with_reducible first | exact HB.out | apply bal | apply pdn | apply bd1) | exact HB.out)⟩
         ·rw [if_neg c39] at H
          have c39b0 : decide (t370 ≤ 1) = false := decide_eq_false c39
          clear c39
          replace H := Option.bind_eq_some_iff.mp H
          obtain ⟨t401, A420, H⟩ := H
          replace H : (some t401) = some r := H
          have A42 := am A420
          clear A420
          obtain rfl := Option.some.inj H
          obtain ⟨Ao43, co43, eo43⟩ := Kd.R_slice HO_11.out
          subst eo43
          go_wp2_with (first | (go_at_call 42; (with_reducible refine (impl_HeardEnough.calls k1 _ _ t369 t370 t371 _ _ x11_1 true _ ?side1 ?side2 ?side3 ?side4 A37.out).mono ?_); (case side1 => repeat (first | exact (Kd.S_reads' HO_5.out).2.2 | (with_reducible first | apply kca | apply kcn | apply kcd))); (case side2 => exact (Kd.S_reads' HO_5.out).2.1); (case side3 => repeat (first | exact (Kd.R_reads' HO_11.out).2.2 | (with_reducible first | apply kca | apply kcn | apply kcd))); (case side4 => exact (Kd.R_reads' HO_11.out).2.1); rintro e w44 ⟨rfl, hb⟩; have n0_ := am (Kd.S_below (by (with_reducible repeat (first | apply Kd.S_alloc | apply Kd.S_drewN | apply Kd.S_drew)); exact HO_5.out) hb); have n1_ := am (krb (by (with_reducible repeat (first | apply kra | apply krn | apply krd)); exact HO_8.out) hb); have n2_ := am (krb (by (with_reducible repeat (first | apply kra | apply krn | apply krd)); exact HO_11.out) hb); have n3_ := am (below_step (by repeat (first | (with_reducible first | exact HB.out | apply bal | apply pdn | apply bd1) | exact HB.out)) hb); clear HO_5; clear HO_8; clear HO_11; clear HB; have HO_5 := n0_; have HO_8 := n1_; have HO_11 := n2_; have HB := n3_; clear n0_ n1_ n2_ n3_; (try clear hb); (try clear hb2); (try clear hk); (try clear hi)) | (go_at_call 42; (with_reducible refine (impl_HeardEnough.calls k1 _ _ t369 (wrap64 (t370 - 1)) t371 _ _ t372 t401 _ ?side1 ?side2 ?side3 ?side4 A42.out).mono ?_); (case side1 => repeat (first | exact (Kd.S_reads' HO_5.out).2.2 | (with_reducible first | apply kca | apply kcn | apply kcd))); (case side2 => exact (Kd.S_reads' HO_5.out).2.1); (case side3 => repeat (first | exact (Kd.R_reads' HO_8.out).2.2 | (with_reducible first | apply kca | apply kcn | apply kcd))); (case side4 => exact (Kd.R_reads' HO_8.out).2.1); rintro e w45 ⟨rfl, hb⟩; have n0_ := am (Kd.S_below (by (with_reducible repeat (first | apply Kd.S_alloc | apply Kd.S_drewN | apply Kd.S_drew)); exact HO_5.out) hb); have n1_ := am (krb (by (with_reducible repeat (first | apply kra | apply krn | apply krd)); exact HO_8.out) hb); have n2_ := am (krb (by (with_reducible repeat (first | apply kra | apply krn | apply krd)); exact HO_11.out) hb); have n3_ := am (below_step (by repeat (first | (with_reducible first | exact HB.out | apply bal | apply pdn | apply bd1) | exact HB.out)) hb); clear HO_5; clear HO_8; clear HO_11; clear HB; have HO_5 := n0_; have HO_8 := n1_; have HO_11 := n2_; have HB := n3_; clear n0_ n1_ n2_ n3_; (try clear hb); (try clear hb2); (try clear hk); (try clear hi)))
          go_ret
          exact ⟨by first | rfl | (simp [errW_none, errW_some] <;> rfl) | (simp [*, errW_none, errW_some] <;> rfl), by repeat (first | (with_reducible first | exact HB.out | apply bal | apply pdn | apply bd1) | exact HB.out)⟩
        ·replace c38 := Bool.eq_false_iff.mpr c38
         subst c38
         have H1 : (some false) = some r := by rw [if_neg (show ¬ (false = true) by decide)] at H; exact H
         clear H
         have H := H1
         clear H1
         exact absurd ((Option.some.inj H).trans hT.out) (by decide)
       ·replace c36 := Bool.eq_false_iff.mpr c36
        subst c36
        have H1 : (some true) = some r := by rw [if_neg (show ¬ (false = true) by decide)] at H; exact H
        clear H
        have H := H1
        clear H1
        obtain rfl := Option.some.inj H
        go_wp2
        go_ret
        exact ⟨by first | rfl | (simp [errW_none, errW_some] <;> rfl) | (simp [*, errW_none, errW_some] <;> rfl), by repeat (first | (with_reducible first | exact HB.out | apply bal | apply pdn | apply bd1) | exact HB.out)⟩
      ·replace c35 := Bool.eq_false_iff.mpr c35
       subst c35
       have H1 : (if x11_1.length < 17592186044416 then (if t377 = true then ((impl_HeardEnough.f k1 t369 t370 t371 (x11_1 ++ [t379])).bind fun t405 => (if t405 = true then (if t370 ≤ 1 then (some true) else ((impl_HeardEnough.f k1 t369 (wrap64 (t370 - 1)) t371 t372).bind fun t406 => (some t406))) else (some false))) else (some true)) else (none)) = some r := by rw [if_neg (show ¬ (false = true) by decide)] at H; exact H
       clear H
       have H := H1
       clear H1
       by_cases c46 : x11_1.length < 17592186044416
       ·rw [if_pos c46] at H
        have LMc46 := am c46
        clear c46
        obtain ⟨y402, hy402⟩ : ∃ y_ : List Int, y_ = (x11_1 ++ [t379]) := ⟨_, rfl⟩
        replace H : (if t377 = true then ((impl_HeardEnough.f k1 t369 t370 t371 y402).bind fun t405 => (if t405 = true then (if t370 ≤ 1 then (some true) else ((impl_HeardEnough.f k1 t369 (wrap64 (t370 - 1)) t371 t372).bind fun t406 => (some t406))) else (some false))) else (some true)) = some r := by first | (rw [hy402]; with_reducible exact H) | (have H2_ := (Option.bind_some _ _).symm.trans H; rw [hy402]; with_reducible exact H2_) | (have H2_ := (Option.bind_some _ _).symm.trans H; with_reducible exact H2_) | with_reducible exact H | (rw [hy402]; exact H) | exact H
        have Ny402 := am hy402
        clear hy402
        by_cases c47 : t377 = true
        ·subst c47
         have H1 : ((impl_HeardEnough.f k1 t369 t370 t371 y402).bind fun t405 => (if t405 = true then (if t370 ≤ 1 then (some true) else ((impl_HeardEnough.f k1 t369 (wrap64 (t370 - 1)) t371 t372).bind fun t406 => (some t406))) else (some false))) = some r := by rw [if_pos rfl] at H; exact H
         clear H
         have H := H1
         clear H1
         replace H := Option.bind_eq_some_iff.mp H
         obtain ⟨t405, A480, H⟩ := H
         replace H : (if t405 = true then (if t370 ≤ 1 then (some true) else ((impl_HeardEnough.f k1 t369 (wrap64 (t370 - 1)) t371 t372).bind fun t406 => (some t406))) else (some false)) = some r := H
         have A48 := am A480
         clear A480
         by_cases c49 : t405 = true
         ·subst c49
          have H1 : (if t370 ≤ 1 then (some true) else ((impl_HeardEnough.f k1 t369 (wrap64 (t370 - 1)) t371 t372).bind fun t406 => (some t406))) = some r := by rw [if_pos rfl] at H; exact H
          clear H
          have H := H1
          clear H1
          by_cases c50 : t370 ≤ 1
          ·rw [if_pos c50] at H
           have c50b0 : decide (t370 ≤ 1) = true := decide_eq_true c50
           clear c50
           obtain rfl := Option.some.inj H
           go_wp2_with (first | ((with_reducible refine gate_builtin (b := .append) (xs := #[.tmp 74, .tmp 76]) rfl ?_); at_builtin; refine Kd.R_append (Kd.int .i64) (w0 := w) w.heap.size rfl (.tmp 74) (.tmp 76) 22 2 (.int .i64 0) 8 rfl Try.underlying22 info2 rfl (by decide) (by omega) u11 x11_1 t379 [.int .i64 t379] (fun k_ => some k_ ≠ (.slice Ao12 t372.length co12 : Value).ownBlock) (fun _ => False) rfl rfl ?aP (fun _ hk => hk.elim) ?aF ?aO ?aB ?aS ?aL ?_; (case aP => exact rfl); (case aB => exact (by repeat (first | (with_reducible first | exact HB.out | apply bal | apply pdn | apply bd1) | exact HB.out))); (case aF => exact (fun k_ hk => Kd.fresh' (Kd.R_lt (by (with_reducible repeat (first | apply kra | apply krn | apply krd)); exact HO_8.out)) k_ hk)); (case aO => exact (by (with_reducible repeat (first | apply kra | apply krn | apply krd)); exact HO_11.out)); (case aS => exact (below_size (by repeat (first | (with_reducible first | exact HB.out | apply bal | apply pdn | apply bd1) | exact HB.out)))); (case aL => have := LMc46.out; omega); intro v403 w51 ho hb hg hat; rw [← Ny402.out] at ho; have n0_ := am (Kd.S_after (ok := (fun k_ => some k_ ≠ (.slice Ao12 t372.length co12 : Value).ownBlock)) (by (with_reducible repeat (first | apply Kd.S_alloc | apply Kd.S_drewN | apply Kd.S_drew)); exact HO_5.out) hg hat); have n1_ := am (Kd.R_after (ok := (fun _ => True)) (by (with_reducible repeat (first | apply kra | apply krn | apply krd)); exact Kd.R_mono HO_8.out (fun _ hk => ⟨trivial, hk⟩)) hg hat); have n2_ := am (hb); have n3_ := am (ho); clear HO_5; clear HO_8; clear HB; clear HO_11; have HO_5 := n0_; have HO_8 := n1_; have HB := n2_; have HO404 := n3_; clear n0_ n1_ n2_ n3_; clear ho hb hg hat; obtain ⟨Ao52, co52, eo52⟩ := Kd.R_slice HO404.out; subst eo52) | (go_at_call 42; (with_reducible refine (impl_HeardEnough.calls k1 _ _ t369 t370 t371 _ _ y402 true _ ?side1 ?side2 ?side3 ?side4 A48.out).mono ?_); (case side1 => repeat (first | exact (Kd.S_reads' HO_5.out).2.2 | (with_reducible first | apply kca | apply kcn | apply kcd))); (case side2 => exact (Kd.S_reads' HO_5.out).2.1); (case side3 => repeat (first | exact (Kd.R_reads' HO404.out).2.2 | (with_reducible first | apply kca | apply kcn | apply kcd))); (case side4 => exact (Kd.R_reads' HO404.out).2.1); rintro e w53 ⟨rfl, hb⟩; have n0_ := am (Kd.S_below (by (with_reducible repeat (first | apply Kd.S_alloc | apply Kd.S_drewN | apply Kd.S_drew)); exact HO_5.out) hb); have n1_ := am (krb (by (with_reducible repeat (first | apply kra | apply krn | apply krd)); exact HO_8.out) hb); have n2_ := am (krb (by (with_reducible repeat (first | apply kra | apply krn | apply krd)); exact HO404.out) hb); have n3_ := am (below_step (by repeat (first | (with_reducible first | exact HB.out | apply bal | apply pdn | apply bd1) | exact HB.out)) hb); clear HO_5; clear HO_8; clear HO404; clear HB; have HO_5 := n0_; have HO_8 := n1_; have HO404 := n2_; have HB := n3_; clear n0_ n1_ n2_ n3_; (try clear hb); (try clear hb2); (try clear hk); (try clear hi)))
           go_ret
           exact ⟨by first | rfl | (simp [errW_none, errW_some] <;> rfl) | (simp [*, errW_none, errW_some] <;> rfl), by repeat (first | (with_reducible first | exact HB.out | apply bal | apply pdn | apply bd1) | exact HB.out)⟩
          ·rw [if_neg c50] at H
           have c50b0 : decide (t370 ≤ 1) = false := decide_eq_false c50
           clear c50
           replace H := Option.bind_eq_some_iff.mp H
           obtain ⟨t406, A540, H⟩ := H
           replace H : (some t406) = some r := H
           have A54 := am A540
           clear A540
           obtain rfl := Option.some.inj H
           go_wp2_with (first | ((with_reducible refine gate_builtin (b := .append) (xs := #[.tmp 74, .tmp 76]) rfl ?_); at_builtin; refine Kd.R_append (Kd.int .i64) (w0 := w) w.heap.size rfl (.tmp 74) (.tmp 76) 22 2 (.int .i64 0) 8 rfl Try.underlying22 info2 rfl (by decide) (by omega) u11 x11_1 t379 [.int .i64 t379] (fun k_ => some k_ ≠ (.slice Ao12 t372.length co12 : Value).ownBlock) (fun _ => False) rfl rfl ?aP (fun _ hk => hk.elim) ?aF ?aO ?aB ?aS ?aL ?_; (case aP => exact rfl); (case aB => exact (by repeat (first | (with_reducible first | exact HB.out | apply bal | apply pdn | apply bd1) | exact HB.out))); (case aF => exact (fun k_ hk => Kd.fresh' (Kd.R_lt (by (with_reducible repeat (first | apply kra | apply krn | apply krd)); exact HO_8.out)) k_ hk)); (case aO => exact (by (with_reducible repeat (first | apply kra | apply krn | apply krd)); exact HO_11.out)); (case aS => exact (below_size (by repeat (first | (with_reducible first | exact HB.out | apply bal | apply pdn | apply bd1) | exact HB.out)))); (case aL => have := LMc46.out; omega); intro v403 w55 ho hb hg hat; rw [← Ny402.out] at ho; have n0_ := am (Kd.S_after (ok := (fun k_ => some k_ ≠ (.slice Ao12 t372.length co12 : Value).ownBlock)) (by (with_reducible repeat (first | apply Kd.S_alloc | apply Kd.S_drewN | apply Kd.S_drew)); exact HO_5.out) hg hat); have n1_ := am (Kd.R_after (ok := (fun _ => True)) (by (with_reducible repeat (first | apply kra | apply krn | apply krd)); exact Kd.R_mono HO_8.out (fun _ hk => ⟨trivial, hk⟩)) hg hat); have n2_ := am (hb); have n3_ := am (ho); clear HO_5; clear HO_8; clear HB; clear HO_11; have HO_5 := n0_; have HO_8 := n1_; have HB := n2_; have HO404 := n3_; clear n0_ n1_ n2_ n3_; clear ho hb hg hat; obtain ⟨Ao56, co56, eo56⟩ := Kd.R_slice HO404.out; subst eo56) | (go_at_call 42; (with_reducible refine (impl_HeardEnough.calls k1 _ _ t369 t370 t371 _ _ y402 true _ ?side1 ?side2 ?side3 ?side4 A48.out).mono ?_); (case side1 => repeat (first | exact (Kd.S_reads' HO_5.out).2.2 | (with_reducible first | apply kca | apply kcn | apply kcd))); (case side2 => exact (Kd.S_reads' HO_5.out).2.1); (case side3 => repeat (first | exact (Kd.R_reads' HO404.out).2.2 | (with_reducible first | apply kca | apply kcn | apply kcd))); (case side4 => exact (Kd.R_reads' HO404.out).2.1); rintro e w57 ⟨rfl, hb⟩; have n0_ := am (Kd.S_below (by (with_reducible repeat (first | apply Kd.S_alloc | apply Kd.S_drewN | apply Kd.S_drew)); exact HO_5.out) hb); have n1_ := am (krb (by (with_reducible repeat (first | apply kra | apply krn | apply krd)); exact HO_8.out) hb); have n2_ := am (krb (by (with_reducible repeat (first | apply kra | apply krn | apply krd)); exact HO404.out) hb); have n3_ := am (below_step (by repeat (first | (with_reducible first | exact HB.out | apply bal | apply pdn | apply bd1) | exact HB.out)) hb); clear HO_5; clear HO_8; clear HO404; clear HB; have HO_5 := n0_; have HO_8 := n1_; have HO404 := n2_; have HB := n3_; clear n0_ n1_ n2_ n3_; (try clear hb); (try clear hb2); (try clear hk); (try clear hi)) | (go_at_call 42; (with_reducible refine (impl_HeardEnough.calls k1 _ _ t369 (wrap64 (t370 - 1)) t371 _ _ t372 t406 _ ?side1 ?side2 ?side3 ?side4 A54.out).mono ?_); (case side1 => repeat (first | exact (Kd.S_reads' HO_5.out).2.2 | (with_reducible first | apply kca | apply kcn | apply kcd))); (case side2 => exact (Kd.S_reads' HO_5.out).2.1); (case side3 => repeat (first | exact (Kd.R_reads' HO_8.out).2.2 | (with_reducible first | apply kca | apply kcn | apply kcd))); (case side4 => exact (Kd.R_reads' HO_8.out).2.1); rintro e w58 ⟨rfl, hb⟩; have n0_ := am (Kd.S_below (by (with_reducible repeat (first | apply Kd.S_alloc | apply Kd.S_drewN | apply Kd.S_drew)); exact HO_5.out) hb); have n1_ := am (krb (by (with_reducible repeat (first | apply kra | apply krn | apply krd)); exact HO_8.out) hb); have n2_ := am (krb (by (with_reducible repeat (first | apply kra | apply krn | apply krd)); exact HO404.out) hb); have n3_ := am (below_step (by repeat (first | (with_reducible first | exact HB.out | apply bal | apply pdn | apply bd1) | exact HB.out)) hb); clear HO_5; clear HO_8; clear HO404; clear HB; have HO_5 := n0_; have HO_8 := n1_; have HO404 := n2_; have HB := n3_; clear n0_ n1_ n2_ n3_; (try clear hb); (try clear hb2); (try clear hk); (try clear hi)))
           go_ret
           exact ⟨by first | rfl | (simp [errW_none, errW_some] <;> rfl) | (simp [*, errW_none, errW_some] <;> rfl), by repeat (first | (with_reducible first | exact HB.out | apply bal | apply pdn | apply bd1) | exact HB.out)⟩
         ·replace c49 := Bool.eq_false_iff.mpr c49
          subst c49
          have H1 : (some false) = some r := by rw [if_neg (show ¬ (false = true) by decide)] at H; exact H
          clear H
          have H := H1
          clear H1
          exact absurd ((Option.some.inj H).trans hT.out) (by decide)
        ·replace c47 := Bool.eq_false_iff.mpr c47
         subst c47
         have H1 : (some true) = some r := by rw [if_neg (show ¬ (false = true) by decide)] at H; exact H
         clear H
         have H := H1
         clear H1
         obtain rfl := Option.some.inj H
         go_wp2_with (first | ((with_reducible refine gate_builtin (b := .append) (xs := #[.tmp 74, .tmp 76]) rfl ?_); at_builtin; refine Kd.R_append (Kd.int .i64) (w0 := w) w.heap.size rfl (.tmp 74) (.tmp 76) 22 2 (.int .i64 0) 8 rfl Try.underlying22 info2 rfl (by decide) (by omega) u11 x11_1 t379 [.int .i64 t379] (fun k_ => some k_ ≠ (.slice Ao12 t372.length co12 : Value).ownBlock) (fun _ => False) rfl rfl ?aP (fun _ hk => hk.elim) ?aF ?aO ?aB ?aS ?aL ?_; (case aP => exact rfl); (case aB => exact (by repeat (first | (with_reducible first | exact HB.out | apply bal | apply pdn | apply bd1) | exact HB.out))); (case aF => exact (fun k_ hk => Kd.fresh' (Kd.R_lt (by (with_reducible repeat (first | apply kra | apply krn | apply krd)); exact HO_8.out)) k_ hk)); (case aO => exact (by (with_reducible repeat (first | apply kra | apply krn | apply krd)); exact HO_11.out)); (case aS => exact (below_size (by repeat (first | (with_reducible first | exact HB.out | apply bal | apply pdn | apply bd1) | exact HB.out)))); (case aL => have := LMc46.out; omega); intro v403 w59 ho hb hg hat; rw [← Ny402.out] at ho; have n0_ := am (Kd.S_after (ok := (fun k_ => some k_ ≠ (.slice Ao12 t372.length co12 : Value).ownBlock)) (by (with_reducible repeat (first | apply Kd.S_alloc | apply Kd.S_drewN | apply Kd.S_drew)); exact HO_5.out) hg hat); have n1_ := am (Kd.R_after (ok := (fun _ => True)) (by (with_reducible repeat (first | apply kra | apply krn | apply krd)); exact Kd.R_mono HO_8.out (fun _ hk => ⟨trivial, hk⟩)) hg hat); have n2_ := am (hb); have n3_ := am (ho); clear HO_5; clear HO_8; clear HB; clear HO_11; have HO_5 := n0_; have HO_8 := n1_; have HB := n2_; have HO404 := n3_; clear n0_ n1_ n2_ n3_; clear ho hb hg hat))
         go_ret
         exact ⟨by first | rfl | (simp [errW_none, errW_some] <;> rfl) | (simp [*, errW_none, errW_some] <;> rfl), by repeat (first | (with_reducible first | exact HB.out | apply bal | apply pdn | apply bd1) | exact HB.out)⟩
       ·rw [if_neg c46] at H
        exact absurd H (by simp)

/-- THE ONE PURE STATEMENT of laws_FnHeard: yours. -/
def laws_FnHeard.Pure : Prop := ∀ (l0 : List Int) (l1 : List Int), l0.length ≤ maxLen → l0.length * 1 ≤ 140737488351232 → (∀ x ∈ l0, (Lit.int .u8 x).wf = true) → l1.length ≤ maxLen → l1.length * 1 ≤ 140737488351232 → (∀ x ∈ l1, (Lit.int .u8 x).wf = true) → ∃ k, laws_FnHeard.f k l0 l1 = some true
theorem laws_FnHeard.walk (P : laws_FnHeard.Pure) (a0 : Option Addr) (len0 cap0 : Nat) (z0 : List Int) (a1 : Option Addr) (len1 cap1 : Nat) (z1 : List Int) (w : World) (w0 : (a0 = none ∧ len0 = 0 ∧ cap0 = 0 ∧ z0 = []) ∨ ∃ x, a0 = some x ∧ len0 ≤ cap0 ∧ cap0 ≤ maxLen ∧ z0.length = cap0 ∧ (∀ i, i < z0.length → w.cell? (x.add i) = some (.int .u8 (z0.getD i 0))) ∧ ∀ n ∈ z0, (Lit.int .u8 n).wf = true) (y0 : len0 * 1 ≤ 140737488351232) (w1 : (a1 = none ∧ len1 = 0 ∧ cap1 = 0 ∧ z1 = []) ∨ ∃ x, a1 = some x ∧ len1 ≤ cap1 ∧ cap1 ≤ maxLen ∧ z1.length = cap1 ∧ (∀ i, i < z1.length → w.cell? (x.add i) = some (.int .u8 (z1.getD i 0))) ∧ ∀ n ∈ z1, (Lit.int .u8 n).wf = true) (y1 : len1 * 1 ≤ 140737488351232) :
  Calls Try.prog 12 #[.slice a0 len0 cap0, .slice a1 len1 cap1] w fun e w' => e = .returned (.bool true) ∧ Below w.heap.size w w' := by
 obtain ⟨l0, rfl, hr0, hm0, hw0, hc0⟩ := ReadsInt.ofRowC w0
 obtain ⟨l1, rfl, hr1, hm1, hw1, hc1⟩ := ReadsInt.ofRowC w1
 obtain ⟨k, h⟩ := P l0 l1 hm0 y0 hw0 hm1 y1 hw1
 refine (laws_FnHeard.calls k _ _ l0 _ _ l1 true w (Kd.C_of_reads (d := (0 : Int)) (h1 := fun _ => rfl) hr0) hc0 (Kd.C_of_reads (d := (0 : Int)) (h1 := fun _ => rfl) hr1) hc1 rfl h).mono ?_
 rintro e w' ⟨rfl, hd⟩
 exact ⟨rfl, hd⟩

end Go.Proofs.Ytfeaokelfbjcdaa.MFnHeard
