-- Written by a program of this session (wip/tools/myprint.py) over the kit's print: it is not the kit's print.
import Derived.Test.YtfeaokelfbjcdaaExtra
import Derived.Test.YtfeaokelfbjcdaaMFnHeardx0
import Derived.Test.YtfeaokelfbjcdaaMFnHeardx1
import Derived.Test.YtfeaokelfbjcdaaMFnHeardx2
namespace Go.Proofs.Ytfeaokelfbjcdaa.MFnHeard
open Go.RowKit Go.Proofs.YtfeaokelfbjcdaaW.PrintWords Go.Proofs.YtfeaokelfbjcdaaW.PrintLast Go.Proofs.YtfeaokelfbjcdaaW.PrintMore
open List renaming map_toArray → mta, map_cons → mco, map_nil → mni, length_drop → lnd, length_take → lnt
attribute [local go_sem] max2_int min2_int max_two min_two max_three min_three max_four min_four   -- for this text's walks alone
set_option linter.unusedVariables false
set_option linter.unusedSimpArgs false

/-! ### spec_l13Enough: function 66 -/
mutual
def spec_l13Enough.j0 : Nat → List (S43) → Int → Int → List Int → Bool → Option (Bool)
 | 0, _, _, _, _, _ => none
 | k + 1, x0, x1, x2, x3, x18 => if x18 = true then (some false) else ((spec_l13Need.f k x0 x2).bind fun t168 => (spec_l13Enough.l0 k x1 x3 t168 0))
def spec_l13Enough.l0 : Nat → Int → List Int → List (S43) → Int → Option (Bool)
 | 0, _, _, _, _ => none
 | k + 1, x1, x3, x9, x10 => if x10 < (x9.length : Int) then (if 0 ≤ x10 then ((spec_l13Heard.f k ((rd_T43 x9 x10).f0) ((rd_T43 x9 x10).f1) ((rd_T43 x9 x10).f2) ((rd_T43 x9 x10).f3) x3).bind fun t172 => (if (t172.length : Int) < x1 then (some false) else (spec_l13Enough.l0 k x1 x3 x9 (wrap64 (x10 + 1))))) else (none)) else (some true)
end
def spec_l13Enough.f (k : Nat) (l0 : List (S43)) (a1 : Int) (a2 : Int) (l3 : List Int) : Option (Bool) := if a2 > 0 then ((spec_l13At.f k l0 a2).bind fun t167 => (spec_l13Enough.j0 k l0 a1 a2 l3 (decide (t167 < 0)))) else (spec_l13Enough.j0 k l0 a1 a2 l3 false)
theorem spec_l13Enough.mono_l : ∀ k, (∀ y0 y1 y2 y3 y4, LeO (spec_l13Enough.j0 k y0 y1 y2 y3 y4) (spec_l13Enough.j0 (k + 1) y0 y1 y2 y3 y4)) ∧ (∀ y0 y1 y2 y3, LeO (spec_l13Enough.l0 k y0 y1 y2 y3) (spec_l13Enough.l0 (k + 1) y0 y1 y2 y3))
 | 0 => ⟨fun _ _ _ _ _ r h => by simp [spec_l13Enough.j0] at h, fun _ _ _ _ r h => by simp [spec_l13Enough.l0] at h⟩
 | k + 1 => by
  obtain ⟨ih0, ih1⟩ := spec_l13Enough.mono_l k
  refine ⟨?_, ?_⟩
  ·intro y0 y1 y2 y3 y4
   unfold spec_l13Enough.j0
   repeat' first
   | (with_reducible exact ih0 _ _ _ _ _)
   | (with_reducible exact ih1 _ _ _ _)
   | (with_reducible exact spec_l13At.mono _ _ _)
   | (with_reducible exact spec_l13Heard.mono _ _ _ _ _ _)
   | (with_reducible exact spec_l13Need.mono _ _ _)
   | (with_reducible exact LeO.refl _)
   | (with_reducible exact LeO.none _)
   | (with_reducible refine LeO.ite ?_ ?_)
   | (with_reducible refine LeO.bind ?_ (fun _ => ?_))
   | exact ih0 _ _ _ _ _
   | exact ih1 _ _ _ _
   | exact spec_l13At.mono _ _ _
   | exact spec_l13Heard.mono _ _ _ _ _ _
   | exact spec_l13Need.mono _ _ _
   | exact LeO.none _
   | refine LeO.ite ?_ ?_
   | refine LeO.bind ?_ (fun _ => ?_)
  ·intro y0 y1 y2 y3
   unfold spec_l13Enough.l0
   repeat' first
   | (with_reducible exact ih0 _ _ _ _ _)
   | (with_reducible exact ih1 _ _ _ _)
   | (with_reducible exact spec_l13At.mono _ _ _)
   | (with_reducible exact spec_l13Heard.mono _ _ _ _ _ _)
   | (with_reducible exact spec_l13Need.mono _ _ _)
   | (with_reducible exact LeO.refl _)
   | (with_reducible exact LeO.none _)
   | (with_reducible refine LeO.ite ?_ ?_)
   | (with_reducible refine LeO.bind ?_ (fun _ => ?_))
   | exact ih0 _ _ _ _ _
   | exact ih1 _ _ _ _
   | exact spec_l13At.mono _ _ _
   | exact spec_l13Heard.mono _ _ _ _ _ _
   | exact spec_l13Need.mono _ _ _
   | exact LeO.none _
   | refine LeO.ite ?_ ?_
   | refine LeO.bind ?_ (fun _ => ?_)
theorem spec_l13Enough.mono : ∀ a0 a1 a2 a3 k, LeO (spec_l13Enough.f k a0 a1 a2 a3) (spec_l13Enough.f (k + 1) a0 a1 a2 a3) := by
 intro a0 a1 a2 a3 k
 obtain ⟨ih0, ih1⟩ := spec_l13Enough.mono_l k
 unfold spec_l13Enough.f
 repeat' first
   | (with_reducible exact ih0 _ _ _ _ _)
   | (with_reducible exact ih1 _ _ _ _)
   | (with_reducible exact spec_l13At.mono _ _ _)
   | (with_reducible exact spec_l13Heard.mono _ _ _ _ _ _)
   | (with_reducible exact spec_l13Need.mono _ _ _)
   | (with_reducible exact LeO.refl _)
   | (with_reducible exact LeO.none _)
   | (with_reducible refine LeO.ite ?_ ?_)
   | (with_reducible refine LeO.bind ?_ (fun _ => ?_))
   | exact ih0 _ _ _ _ _
   | exact ih1 _ _ _ _
   | exact spec_l13At.mono _ _ _
   | exact spec_l13Heard.mono _ _ _ _ _ _
   | exact spec_l13Need.mono _ _ _
   | exact LeO.none _
   | refine LeO.ite ?_ ?_
   | refine LeO.bind ?_ (fun _ => ?_)
set_option maxHeartbeats 8000000 in
set_option maxRecDepth 100000 in
theorem spec_l13Enough.calls (k : Nat) (A0 : Option Addr) (c0 : Nat) (l0 : List (S43)) (a1 : Int) (a2 : Int) (A3 : Option Addr) (c3 : Nat) (l3 : List Int) (r : Bool) (w : World) (hr0 : Kd.C k43 w A0 l0.length l0) (hc0 : l0.length ≤ c0) (hr3 : Kd.C (Kd.int .i64) w A3 l3.length l3) (hc3 : l3.length ≤ c3) (h : spec_l13Enough.f k l0 a1 a2 l3 = some r) :
  Calls Try.prog 66 #[.slice A0 l0.length c0, .int .i64 a1, .int .i64 a2, .slice A3 l3.length c3] w fun e w' => e = .returned (.bool r) ∧ Below w.heap.size w w' := by
 have hu43 := Try.underlying43
 have HR0 := am hr0
 have HC0 := am hc0
 clear hr0 hc0
 have HR3 := am hr3
 have HC3 := am hc3
 clear hr3 hc3
 have HB := am (Below.refl w.heap.size w)
 have H : (if a2 > 0 then ((spec_l13At.f k l0 a2).bind fun t167 => (spec_l13Enough.j0 k l0 a1 a2 l3 (decide (t167 < 0)))) else (spec_l13Enough.j0 k l0 a1 a2 l3 false)) = some r := h
 clear h
 have HC5 := am H
 clear H
 go_enter Try.func66, Try.ntmps66
 go_upto_region 1 with (fail)
 go_cut [18] (fun v18 wc => ∃ (kq : Nat) (x18_4 : Bool), v18 = .bool x18_4 ∧ Aside0 (spec_l13Enough.j0 kq l0 a1 a2 l3 x18_4 = some r) ∧ Aside0 (kq ≤ k) ∧ Aside0 (Below w.heap.size w wc))
 case first =>
  have H := HC5.out
  clear HC5
  by_cases c6 : a2 > 0
  ·rw [if_pos c6] at H
   have c6b0 : decide (0 < a2) = true := decide_eq_true c6
   clear c6
   (first | rw [c6b0] | (simp only [i64_w, i32_w]; rw [c6b0]) | skip)
   replace H := Option.bind_eq_some_iff.mp H
   obtain ⟨t167, A70, H⟩ := H
   replace H : (spec_l13Enough.j0 k l0 a1 a2 l3 (decide (t167 < 0))) = some r := H
   have A7 := am A70
   clear A70
   have H' := am H
   clear H
   go_wp2_with (first | (go_at_call 85; (with_reducible refine (spec_l13At.calls k _ _ l0 a2 t167 _ ?side1 ?side2 A7.out).mono ?_); (case side1 => repeat (first | exact (Kd.C_below HR0.out HB.out) | (with_reducible first | apply kca | apply kcn | apply kcd))); (case side2 => exact HC0.out); rintro e w' ⟨rfl, ⟨nd, rfl⟩⟩))
   go_meet
   case rel => exact ⟨_, (decide (t167 < 0)), (by first | rfl | (simp; done) | (simp [*]; done)), H', ⟨by first | omega | exact Nat.le_refl _⟩, ⟨by repeat (first | (with_reducible first | exact HB.out | apply bal | apply pdn | apply bd1) | exact HB.out)⟩⟩
  ·rw [if_neg c6] at H
   have c6b0 : decide (0 < a2) = false := decide_eq_false c6
   clear c6
   (first | rw [c6b0] | (simp only [i64_w, i32_w]; rw [c6b0]) | skip)
   have H' := am H
   clear H
   go_wp2
   go_meet
   case rel => exact ⟨_, (false), (by first | rfl | (simp; done) | (simp [*]; done)), H', ⟨by first | omega | exact Nat.le_refl _⟩, ⟨by repeat (first | (with_reducible first | exact HB.out | apply bal | apply pdn | apply bd1) | exact HB.out)⟩⟩
 case rest =>
  clear HC5
  obtain ⟨kq, x18_4, rfl, HA, HJ4, HB⟩ := hcut
  cases kq with
  | zero => exact absurd HA.out (by simp [spec_l13Enough.j0])
  | succ kj4 =>
   have H := HA.out
   clear HA
   simp only [spec_l13Enough.j0] at H
   by_cases c8 : x18_4 = true
   ·subst c8
    have H1 : (some false) = some r := by rw [if_pos rfl] at H; exact H
    clear H
    have H := H1
    clear H1
    obtain rfl := Option.some.inj H
    go_wp2
    go_ret
    exact ⟨by first | rfl | (simp [errW_none, errW_some] <;> rfl) | (simp [*, errW_none, errW_some] <;> rfl), by repeat (first | (with_reducible first | exact HB.out | apply bal | apply pdn | apply bd1) | exact HB.out)⟩
   ·replace c8 := Bool.eq_false_iff.mpr c8
    subst c8
    have H1 : ((spec_l13Need.f kj4 l0 a2).bind fun t168 => (spec_l13Enough.l0 kj4 a1 l3 t168 0)) = some r := by rw [if_neg (show ¬ (false = true) by decide)] at H; exact H
    clear H
    have H := H1
    clear H1
    replace H := Option.bind_eq_some_iff.mp H
    obtain ⟨t168, A90, H⟩ := H
    replace H : (spec_l13Enough.l0 kj4 a1 l3 t168 0) = some r := H
    have A9 := am A90
    clear A90
    have H' := am H
    clear H
    go_wp2_with (first | ((with_reducible refine gate_callee (f := 86) rfl ?_); refine goesL_ (some 21) rfl rfl Try.func86 (by kernel_rfl) rfl #[.slice A0 l0.length c0, .int .i64 a2] rfl (by (try simp only [mta, mco, mni]); first | done | rfl | (simp only [lnd, lnt]; rfl)) ?_; (with_reducible refine (spec_l13Need.calls kj4 _ _ l0 a2 t168 _ ?side1 ?side2 A9.out).mono ?_); (case side1 => repeat (first | exact (Kd.C_below HR0.out HB.out) | (with_reducible first | apply kca | apply kcn | apply kcd))); (case side2 => exact HC0.out); rintro e w10 ⟨v169, rfl, ho0, hb⟩; refine ⟨_, rfl, ?_⟩; have n0_ := am (Kd.S_lower ho0 (below_size (by repeat (first | (with_reducible first | exact HB.out | apply bal | apply pdn | apply bd1) | exact HB.out)))); have n1_ := am (below_step (by repeat (first | (with_reducible first | exact HB.out | apply bal | apply pdn | apply bd1) | exact HB.out)) hb); clear HB; have HO170 := n0_; have HB := n1_; clear n0_ n1_; (try clear hb); (try clear hb2); (try clear hk); (try clear hi); (try clear ho0)))
    go_loopg [10] kj4 (fun kq v10 w' => ∃ (x10_2 : Int), v10 = .int .i64 x10_2 ∧ Aside0 (spec_l13Enough.l0 kq a1 l3 t168 x10_2 = some r) ∧ Aside0 (kq ≤ kj4) ∧ Aside0 (Kd.S k43 43 w' w.heap.size (fun _ => True) v169 t168) ∧ Aside0 (Below w.heap.size w w'))
    case atStart => exact ⟨(0), (by first | rfl | (simp; done) | (simp [*]; done)), H', ⟨Nat.le_refl _⟩, ⟨by (with_reducible repeat (first | apply Kd.S_alloc | apply Kd.S_drewN | apply Kd.S_drew)); exact HO170.out⟩, ⟨by repeat (first | (with_reducible first | exact HB.out | apply bal | apply pdn | apply bd1) | exact HB.out)⟩⟩
    case round =>
     clear H'
     obtain ⟨x10_2, rfl, HA, HK2, HO_9, HB⟩ := hrel
     cases gk with
     | zero => exact absurd HA.out (by simp [spec_l13Enough.l0])
     | succ k2 =>
      have H := HA.out
      clear HA
      simp only [spec_l13Enough.l0] at H
      by_cases c11 : x10_2 < (t168.length : Int)
      ·rw [if_pos c11] at H
       have c11b0 : decide (x10_2 < (t168.length : Int)) = true := decide_eq_true c11
       clear c11
       by_cases c12 : 0 ≤ x10_2
       ·rw [if_pos c12] at H
        have c12b0 : decide (0 ≤ x10_2) = true := decide_eq_true c12
        clear c12
        replace H := Option.bind_eq_some_iff.mp H
        obtain ⟨t172, A130, H⟩ := H
        replace H : (if (t172.length : Int) < a1 then (some false) else (spec_l13Enough.l0 k2 a1 l3 t168 (wrap64 (x10_2 + 1)))) = some r := H
        have A13 := am A130
        clear A130
        by_cases c14 : (t172.length : Int) < a1
        ·rw [if_pos c14] at H
         have c14b0 : decide ((t172.length : Int) < a1) = true := decide_eq_true c14
         clear c14
         obtain rfl := Option.some.inj H
         obtain ⟨Ao15, co15, eo15⟩ := Kd.S_slice HO_9.out
         subst eo15
         have p171 : 0 ≤ (x10_2 : Int) := of_decide_eq_true (by first | (with_reducible assumption) | assumption)
         have q171 : x10_2 < (t168.length : Int) := of_decide_eq_true (by first | (with_reducible assumption) | assumption)
         obtain ⟨ad171, A171_2, c171_2, e171, hx171_0, hx171_1, hx171_2, hx171_3, hl171_2, hi171_2⟩ := at_T43 (Kd.S_reads' HO_9.out).2.2 x10_2 p171 q171
         cases e171
         obtain ⟨ce171, hce171, hMe171, hcc171⟩ := Kd.S_get HO_9.out z43 x10_2 p171 (by first | exact q171 | exact of_decide_eq_true (by first | (with_reducible assumption) | assumption) | (have e_ := (Kd.S_reads' HO_9.out).1; omega))
         obtain ⟨ve171_2, rfl, ge171_2⟩ := k43_openM hMe171
         have hv171_2 := hcc171 2 _ rfl
         rw [add_field _ _ 2 (by omega)] at hv171_2
         replace hv171_2 := Option.some.inj (hv171_2.symm.trans hx171_2)
         rw [hv171_2] at ge171_2
         have HL171_2 := am (show Kd.R (Kd.int .i64) 2 _ _ _ _ ((rd_T43 t168 x10_2).f2) from ge171_2)
         clear hv171_2 ge171_2
         clear hcc171 hce171
         have HR171_2 := am hi171_2
         have HC171_2 := am hl171_2
         clear hi171_2 hl171_2
         replace p171 := eq_true p171
         replace q171 := eq_true q171
         go_wp2_with (first | ((with_reducible refine gate_callee (f := 62) rfl ?_); refine goesL_ (some 33) rfl rfl Try.func62 (by kernel_rfl) rfl #[.agg #[.int .i64 ((rd_T43 t168 x10_2).f0), .int .i64 ((rd_T43 t168 x10_2).f1), .slice A171_2 ((rd_T43 t168 x10_2).f2).length c171_2, .bool ((rd_T43 t168 x10_2).f3)], .slice A3 l3.length c3] rfl (by (try simp only [mta, mco, mni]); first | done | rfl | (simp only [lnd, lnt]; rfl)) ?_; (with_reducible refine (spec_l13Heard.calls k2 ((rd_T43 t168 x10_2).f0) ((rd_T43 t168 x10_2).f1) _ _ ((rd_T43 t168 x10_2).f2) ((rd_T43 t168 x10_2).f3) _ _ l3 t172 _ ?side1 ?side2 ?side3 ?side4 A13.out).mono ?_); (case side1 => repeat (first | exact (by repeat (first | (with_reducible exact HR171_2.out) | (with_reducible first | apply kca | apply kcn | apply kcd) | exact HR171_2.out)) | (with_reducible first | apply kca | apply kcn | apply kcd))); (case side2 => exact HC171_2.out); (case side3 => repeat (first | exact (Kd.C_below HR3.out HB.out) | (with_reducible first | apply kca | apply kcn | apply kcd))); (case side4 => exact HC3.out); rintro e w16 ⟨v173, rfl, ho0, hb⟩; refine ⟨_, rfl, ?_⟩; have n0_ := am (Kd.S_elder' (by (with_reducible repeat (first | apply Kd.S_alloc | apply Kd.S_drewN | apply Kd.S_drew)); exact HO_9.out) (Kd.R_base ho0) hb); have n1_ := am (kre (by (with_reducible repeat (first | apply kra | apply krn | apply krd)); exact HL171_2.out) (Kd.R_base ho0) hb); have n2_ := am (Kd.R_lower (Kd.R_new' ho0 (Kd.R_lt (by (with_reducible repeat (first | apply kra | apply krn | apply krd)); exact HL171_2.out))) (below_size (by repeat (first | (with_reducible first | exact HB.out | apply bal | apply pdn | apply bd1) | exact HB.out)))); have n3_ := am (Kd.C_below (by repeat (first | (with_reducible exact HR171_2.out) | (with_reducible first | apply kca | apply kcn | apply kcd) | exact HR171_2.out)) hb); have n4_ := am (below_step (by repeat (first | (with_reducible first | exact HB.out | apply bal | apply pdn | apply bd1) | exact HB.out)) hb); clear HO_9; clear HL171_2; clear HR171_2; clear HB; have HO_9 := n0_; have HL171_2 := n1_; have HO174 := n2_; have HR171_2 := n3_; have HB := n4_; clear n0_ n1_ n2_ n3_ n4_; (try clear hb); (try clear hb2); (try clear hk); (try clear hi); (try clear ho0); obtain ⟨Ao17, co17, eo17⟩ := Kd.R_slice HO174.out; subst eo17))
         go_ret
         exact ⟨by first | rfl | (simp [errW_none, errW_some] <;> rfl) | (simp [*, errW_none, errW_some] <;> rfl), by repeat (first | (with_reducible first | exact HB.out | apply bal | apply pdn | apply bd1) | exact HB.out)⟩
        ·rw [if_neg c14] at H
         have c14b0 : decide ((t172.length : Int) < a1) = false := decide_eq_false c14
         clear c14
         have H' := am H
         clear H
         obtain ⟨Ao18, co18, eo18⟩ := Kd.S_slice HO_9.out
         subst eo18
         have p171 : 0 ≤ (x10_2 : Int) := of_decide_eq_true (by first | (with_reducible assumption) | assumption)
         have q171 : x10_2 < (t168.length : Int) := of_decide_eq_true (by first | (with_reducible assumption) | assumption)
         obtain ⟨ad171, A171_2, c171_2, e171, hx171_0, hx171_1, hx171_2, hx171_3, hl171_2, hi171_2⟩ := at_T43 (Kd.S_reads' HO_9.out).2.2 x10_2 p171 q171
         cases e171
         obtain ⟨ce171, hce171, hMe171, hcc171⟩ := Kd.S_get HO_9.out z43 x10_2 p171 (by first | exact q171 | exact of_decide_eq_true (by first | (with_reducible assumption) | assumption) | (have e_ := (Kd.S_reads' HO_9.out).1; omega))
         obtain ⟨ve171_2, rfl, ge171_2⟩ := k43_openM hMe171
         have hv171_2 := hcc171 2 _ rfl
         rw [add_field _ _ 2 (by omega)] at hv171_2
         replace hv171_2 := Option.some.inj (hv171_2.symm.trans hx171_2)
         rw [hv171_2] at ge171_2
         have HL171_2 := am (show Kd.R (Kd.int .i64) 2 _ _ _ _ ((rd_T43 t168 x10_2).f2) from ge171_2)
         clear hv171_2 ge171_2
         clear hcc171 hce171
         have HR171_2 := am hi171_2
         have HC171_2 := am hl171_2
         clear hi171_2 hl171_2
         replace p171 := eq_true p171
         replace q171 := eq_true q171
         go_wp2_with (first | ((with_reducible refine gate_callee (f := 62) rfl ?_); refine goesL_ (some 33) rfl rfl Try.func62 (by kernel_rfl) rfl #[.agg #[.int .i64 ((rd_T43 t168 x10_2).f0), .int .i64 ((rd_T43 t168 x10_2).f1), .slice A171_2 ((rd_T43 t168 x10_2).f2).length c171_2, .bool ((rd_T43 t168 x10_2).f3)], .slice A3 l3.length c3] rfl (by (try simp only [mta, mco, mni]); first | done | rfl | (simp only [lnd, lnt]; rfl)) ?_; (with_reducible refine (spec_l13Heard.calls k2 ((rd_T43 t168 x10_2).f0) ((rd_T43 t168 x10_2).f1) _ _ ((rd_T43 t168 x10_2).f2) ((rd_T43 t168 x10_2).f3) _ _ l3 t172 _ ?side1 ?side2 ?side3 ?side4 A13.out).mono ?_); (case side1 => repeat (first | exact (by repeat (first | (with_reducible exact HR171_2.out) | (with_reducible first | apply kca | apply kcn | apply kcd) | exact HR171_2.out)) | (with_reducible first | apply kca | apply kcn | apply kcd))); (case side2 => exact HC171_2.out); (case side3 => repeat (first | exact (Kd.C_below HR3.out HB.out) | (with_reducible first | apply kca | apply kcn | apply kcd))); (case side4 => exact HC3.out); rintro e w19 ⟨v173, rfl, ho0, hb⟩; refine ⟨_, rfl, ?_⟩; have n0_ := am (Kd.S_elder' (by (with_reducible repeat (first | apply Kd.S_alloc | apply Kd.S_drewN | apply Kd.S_drew)); exact HO_9.out) (Kd.R_base ho0) hb); have n1_ := am (kre (by (with_reducible repeat (first | apply kra | apply krn | apply krd)); exact HL171_2.out) (Kd.R_base ho0) hb); have n2_ := am (Kd.R_lower (Kd.R_new' ho0 (Kd.R_lt (by (with_reducible repeat (first | apply kra | apply krn | apply krd)); exact HL171_2.out))) (below_size (by repeat (first | (with_reducible first | exact HB.out | apply bal | apply pdn | apply bd1) | exact HB.out)))); have n3_ := am (Kd.C_below (by repeat (first | (with_reducible exact HR171_2.out) | (with_reducible first | apply kca | apply kcn | apply kcd) | exact HR171_2.out)) hb); have n4_ := am (below_step (by repeat (first | (with_reducible first | exact HB.out | apply bal | apply pdn | apply bd1) | exact HB.out)) hb); clear HO_9; clear HL171_2; clear HR171_2; clear HB; have HO_9 := n0_; have HL171_2 := n1_; have HO174 := n2_; have HR171_2 := n3_; have HB := n4_; clear n0_ n1_ n2_ n3_ n4_; (try clear hb); (try clear hb2); (try clear hk); (try clear hi); (try clear ho0); obtain ⟨Ao20, co20, eo20⟩ := Kd.R_slice HO174.out; subst eo20))
         go_roundg k2
         case measure => have := HJ4.out; have := HK2.out; omega
         case rel => exact ⟨(wrap64 (x10_2 + 1)), (by first | rfl | (simp; done) | (simp [*]; done)), H', ⟨by have := HJ4.out; have := HK2.out; omega⟩, ⟨by (with_reducible repeat (first | apply Kd.S_alloc | apply Kd.S_drewN | apply Kd.S_drew)); exact Kd.S_mono HO_9.out (fun _ hk => trivial)⟩, ⟨by repeat (first | (with_reducible first | exact HB.out | apply bal | apply pdn | apply bd1) | exact HB.out)⟩⟩
       ·rw [if_neg c12] at H
        exact absurd H (by simp)
      ·rw [if_neg c11] at H
       have c11b0 : decide (x10_2 < (t168.length : Int)) = false := decide_eq_false c11
       clear c11
       obtain rfl := Option.some.inj H
       obtain ⟨Ao21, co21, eo21⟩ := Kd.S_slice HO_9.out
       subst eo21
       go_wp2
       go_ret
       exact ⟨by first | rfl | (simp [errW_none, errW_some] <;> rfl) | (simp [*, errW_none, errW_some] <;> rfl), by repeat (first | (with_reducible first | exact HB.out | apply bal | apply pdn | apply bd1) | exact HB.out)⟩

/-! ### spec_HeardEnough: function 41 -/
def spec_HeardEnough.f (k : Nat) (l0 : List (S43)) (a1 : Int) (a2 : Int) (l3 : List Int) : Option (Bool) := (spec_l13Ok.f k l0).bind fun t175 => (if t175 = true then ((spec_l00In.f a1 1 7).bind fun t176 => (if t176 = true then ((spec_l13Nodes.f k l3).bind fun t177 => (if t177 = true then ((spec_l13Enough.f k l0 a1 a2 l3).bind fun t178 => (some t178)) else (some false))) else (some false))) else (some false))
theorem spec_HeardEnough.mono : ∀ a0 a1 a2 a3 k, LeO (spec_HeardEnough.f k a0 a1 a2 a3) (spec_HeardEnough.f (k + 1) a0 a1 a2 a3) := by
 intro a0 a1 a2 a3 k
 unfold spec_HeardEnough.f
 repeat' first
   | (with_reducible exact spec_l13Enough.mono _ _ _ _ _)
   | (with_reducible exact spec_l13Nodes.mono _ _)
   | (with_reducible exact spec_l13Ok.mono _ _)
   | (with_reducible exact LeO.refl _)
   | (with_reducible exact LeO.none _)
   | (with_reducible refine LeO.ite ?_ ?_)
   | (with_reducible refine LeO.bind ?_ (fun _ => ?_))
   | exact spec_l13Enough.mono _ _ _ _ _
   | exact spec_l13Nodes.mono _ _
   | exact spec_l13Ok.mono _ _
   | exact LeO.none _
   | refine LeO.ite ?_ ?_
   | refine LeO.bind ?_ (fun _ => ?_)
set_option maxHeartbeats 8000000 in
set_option maxRecDepth 100000 in
theorem spec_HeardEnough.calls (k : Nat) (A0 : Option Addr) (c0 : Nat) (l0 : List (S43)) (a1 : Int) (a2 : Int) (A3 : Option Addr) (c3 : Nat) (l3 : List Int) (r : Bool) (w : World) (hr0 : Kd.C k43 w A0 l0.length l0) (hc0 : l0.length ≤ c0) (hr3 : Kd.C (Kd.int .i64) w A3 l3.length l3) (hc3 : l3.length ≤ c3) (h : spec_HeardEnough.f k l0 a1 a2 l3 = some r) :
  Calls Try.prog 41 #[.slice A0 l0.length c0, .int .i64 a1, .int .i64 a2, .slice A3 l3.length c3] w fun e w' => e = .returned (.bool r) ∧ Below w.heap.size w w' := by
 have HR0 := am hr0
 have HC0 := am hc0
 clear hr0 hc0
 have HR3 := am hr3
 have HC3 := am hc3
 clear hr3 hc3
 have HB := am (Below.refl w.heap.size w)
 have H : ((spec_l13Ok.f k l0).bind fun t175 => (if t175 = true then ((spec_l00In.f a1 1 7).bind fun t176 => (if t176 = true then ((spec_l13Nodes.f k l3).bind fun t177 => (if t177 = true then ((spec_l13Enough.f k l0 a1 a2 l3).bind fun t178 => (some t178)) else (some false))) else (some false))) else (some false))) = some r := h
 clear h
 replace H := Option.bind_eq_some_iff.mp H
 obtain ⟨t175, A50, H⟩ := H
 replace H : (if t175 = true then ((spec_l00In.f a1 1 7).bind fun t176 => (if t176 = true then ((spec_l13Nodes.f k l3).bind fun t177 => (if t177 = true then ((spec_l13Enough.f k l0 a1 a2 l3).bind fun t178 => (some t178)) else (some false))) else (some false))) else (some false)) = some r := H
 have A5 := am A50
 clear A50
 by_cases c6 : t175 = true
 ·subst c6
  have H1 : ((spec_l00In.f a1 1 7).bind fun t176 => (if t176 = true then ((spec_l13Nodes.f k l3).bind fun t177 => (if t177 = true then ((spec_l13Enough.f k l0 a1 a2 l3).bind fun t178 => (some t178)) else (some false))) else (some false))) = some r := by rw [if_pos rfl] at H; exact H
  clear H
  have H := H1
  clear H1
  replace H := Option.bind_eq_some_iff.mp H
  obtain ⟨t176, A70, H⟩ := H
  replace H : (if t176 = true then ((spec_l13Nodes.f k l3).bind fun t177 => (if t177 = true then ((spec_l13Enough.f k l0 a1 a2 l3).bind fun t178 => (some t178)) else (some false))) else (some false)) = some r := H
  have A7 := am A70
  clear A70
  by_cases c8 : t176 = true
  ·subst c8
   have H1 : ((spec_l13Nodes.f k l3).bind fun t177 => (if t177 = true then ((spec_l13Enough.f k l0 a1 a2 l3).bind fun t178 => (some t178)) else (some false))) = some r := by rw [if_pos rfl] at H; exact H
   clear H
   have H := H1
   clear H1
   replace H := Option.bind_eq_some_iff.mp H
   obtain ⟨t177, A90, H⟩ := H
   replace H : (if t177 = true then ((spec_l13Enough.f k l0 a1 a2 l3).bind fun t178 => (some t178)) else (some false)) = some r := H
   have A9 := am A90
   clear A90
   by_cases c10 : t177 = true
   ·subst c10
    have H1 : ((spec_l13Enough.f k l0 a1 a2 l3).bind fun t178 => (some t178)) = some r := by rw [if_pos rfl] at H; exact H
    clear H
    have H := H1
    clear H1
    replace H := Option.bind_eq_some_iff.mp H
    obtain ⟨t178, A110, H⟩ := H
    replace H : (some t178) = some r := H
    have A11 := am A110
    clear A110
    obtain rfl := Option.some.inj H
    go_enter Try.func41, Try.ntmps41
    go_wp2_with (first | ((with_reducible refine gate_callee (f := 56) rfl ?_); refine goesL_ (some 10) rfl rfl Try.func56 (by kernel_rfl) rfl #[.slice A0 l0.length c0] rfl (by (try simp only [mta, mco, mni]); first | done | rfl | (simp only [lnd, lnt]; rfl)) ?_; (with_reducible refine (spec_l13Ok.calls k _ _ l0 true _ ?side1 ?side2 A5.out).mono ?_); (case side1 => repeat (first | exact HR0.out | (with_reducible first | apply kca | apply kcn | apply kcd))); (case side2 => exact HC0.out); rintro e w12 ⟨rfl, hb⟩; refine ⟨_, rfl, ?_⟩; have n0_ := am (below_step (by repeat (first | (with_reducible first | exact HB.out | apply bal | apply pdn | apply bd1) | exact HB.out)) hb); clear HB; have HB := n0_; clear n0_; (try clear hb); (try clear hb2); (try clear hk); (try clear hi)) | (go_at_call 65; (with_reducible refine (spec_l00In.calls a1 1 7 true _ A7.out).mono ?_); rintro e w' ⟨rfl, ⟨nd, rfl⟩⟩) | (go_at_call 61; (with_reducible refine (spec_l13Nodes.calls k _ _ l3 true _ ?side1 ?side2 A9.out).mono ?_); (case side1 => repeat (first | exact (Kd.C_below HR3.out (by repeat (first | (with_reducible first | exact HB.out | apply bal | apply pdn | apply bd1) | exact HB.out))) | (with_reducible first | apply kca | apply kcn | apply kcd))); (case side2 => exact HC3.out); rintro e w' ⟨rfl, ⟨nd, rfl⟩⟩) | (go_at_call 66; (with_reducible refine (spec_l13Enough.calls k _ _ l0 a1 a2 _ _ l3 t178 _ ?side1 ?side2 ?side3 ?side4 A11.out).mono ?_); (case side1 => repeat (first | exact (Kd.C_below HR0.out (by repeat (first | (with_reducible first | exact HB.out | apply bal | apply pdn | apply bd1) | exact HB.out))) | (with_reducible first | apply kca | apply kcn | apply kcd))); (case side2 => exact HC0.out); (case side3 => repeat (first | exact (Kd.C_below HR3.out (by repeat (first | (with_reducible first | exact HB.out | apply bal | apply pdn | apply bd1) | exact HB.out))) | (with_reducible first | apply kca | apply kcn | apply kcd))); (case side4 => exact HC3.out); rintro e w13 ⟨rfl, hb⟩; have n0_ := am (below_step (by repeat (first | (with_reducible first | exact HB.out | apply bal | apply pdn | apply bd1) | exact HB.out)) hb); clear HB; have HB := n0_; clear n0_; (try clear hb); (try clear hb2); (try clear hk); (try clear hi)))
    go_ret
    exact ⟨by first | rfl | (simp [errW_none, errW_some] <;> rfl) | (simp [*, errW_none, errW_some] <;> rfl), by repeat (first | (with_reducible first | exact HB.out | apply bal | apply pdn | apply bd1) | exact HB.out)⟩
   ·replace c10 := Bool.eq_false_iff.mpr c10
    subst c10
    have H1 : (some false) = some r := by rw [if_neg (show ¬ (false = true) by decide)] at H; exact H
    clear H
    have H := H1
    clear H1
    obtain rfl := Option.some.inj H
    go_enter Try.func41, Try.ntmps41
    go_wp2_with (first | ((with_reducible refine gate_callee (f := 56) rfl ?_); refine goesL_ (some 10) rfl rfl Try.func56 (by kernel_rfl) rfl #[.slice A0 l0.length c0] rfl (by (try simp only [mta, mco, mni]); first | done | rfl | (simp only [lnd, lnt]; rfl)) ?_; (with_reducible refine (spec_l13Ok.calls k _ _ l0 true _ ?side1 ?side2 A5.out).mono ?_); (case side1 => repeat (first | exact HR0.out | (with_reducible first | apply kca | apply kcn | apply kcd))); (case side2 => exact HC0.out); rintro e w14 ⟨rfl, hb⟩; refine ⟨_, rfl, ?_⟩; have n0_ := am (below_step (by repeat (first | (with_reducible first | exact HB.out | apply bal | apply pdn | apply bd1) | exact HB.out)) hb); clear HB; have HB := n0_; clear n0_; (try clear hb); (try clear hb2); (try clear hk); (try clear hi)) | (go_at_call 65; (with_reducible refine (spec_l00In.calls a1 1 7 true _ A7.out).mono ?_); rintro e w' ⟨rfl, ⟨nd, rfl⟩⟩) | (go_at_call 61; (with_reducible refine (spec_l13Nodes.calls k _ _ l3 false _ ?side1 ?side2 A9.out).mono ?_); (case side1 => repeat (first | exact (Kd.C_below HR3.out (by repeat (first | (with_reducible first | exact HB.out | apply bal | apply pdn | apply bd1) | exact HB.out))) | (with_reducible first | apply kca | apply kcn | apply kcd))); (case side2 => exact HC3.out); rintro e w' ⟨rfl, ⟨nd, rfl⟩⟩))
    go_ret
    exact ⟨by first | rfl | (simp [errW_none, errW_some] <;> rfl) | (simp [*, errW_none, errW_some] <;> rfl), by repeat (first | (with_reducible first | exact HB.out | apply bal | apply pdn | apply bd1) | exact HB.out)⟩
  ·replace c8 := Bool.eq_false_iff.mpr c8
   subst c8
   have H1 : (some false) = some r := by rw [if_neg (show ¬ (false = true) by decide)] at H; exact H
   clear H
   have H := H1
   clear H1
   obtain rfl := Option.some.inj H
   go_enter Try.func41, Try.ntmps41
   go_wp2_with (first | ((with_reducible refine gate_callee (f := 56) rfl ?_); refine goesL_ (some 10) rfl rfl Try.func56 (by kernel_rfl) rfl #[.slice A0 l0.length c0] rfl (by (try simp only [mta, mco, mni]); first | done | rfl | (simp only [lnd, lnt]; rfl)) ?_; (with_reducible refine (spec_l13Ok.calls k _ _ l0 true _ ?side1 ?side2 A5.out).mono ?_); (case side1 => repeat (first | exact HR0.out | (with_reducible first | apply kca | apply kcn | apply kcd))); (case side2 => exact HC0.out); rintro e w15 ⟨rfl, hb⟩; refine ⟨_, rfl, ?_⟩; have n0_ := am (below_step (by repeat (first | (with_reducible first | exact HB.out | apply bal | apply pdn | apply bd1) | exact HB.out)) hb); clear HB; have HB := n0_; clear n0_; (try clear hb); (try clear hb2); (try clear hk); (try clear hi)) | (go_at_call 65; (with_reducible refine (spec_l00In.calls a1 1 7 false _ A7.out).mono ?_); rintro e w' ⟨rfl, ⟨nd, rfl⟩⟩))
   go_ret
   exact ⟨by first | rfl | (simp [errW_none, errW_some] <;> rfl) | (simp [*, errW_none, errW_some] <;> rfl), by repeat (first | (with_reducible first | exact HB.out | apply bal | apply pdn | apply bd1) | exact HB.out)⟩
 ·replace c6 := Bool.eq_false_iff.mpr c6
  subst c6
  have H1 : (some false) = some r := by rw [if_neg (show ¬ (false = true) by decide)] at H; exact H
  clear H
  have H := H1
  clear H1
  obtain rfl := Option.some.inj H
  go_enter Try.func41, Try.ntmps41
  go_wp2_with (first | ((with_reducible refine gate_callee (f := 56) rfl ?_); refine goesL_ (some 10) rfl rfl Try.func56 (by kernel_rfl) rfl #[.slice A0 l0.length c0] rfl (by (try simp only [mta, mco, mni]); first | done | rfl | (simp only [lnd, lnt]; rfl)) ?_; (with_reducible refine (spec_l13Ok.calls k _ _ l0 false _ ?side1 ?side2 A5.out).mono ?_); (case side1 => repeat (first | exact HR0.out | (with_reducible first | apply kca | apply kcn | apply kcd))); (case side2 => exact HC0.out); rintro e w16 ⟨rfl, hb⟩; refine ⟨_, rfl, ?_⟩; have n0_ := am (below_step (by repeat (first | (with_reducible first | exact HB.out | apply bal | apply pdn | apply bd1) | exact HB.out)) hb); clear HB; have HB := n0_; clear n0_; (try clear hb); (try clear hb2); (try clear hk); (try clear hi)))
  go_ret
  exact ⟨by first | rfl | (simp [errW_none, errW_some] <;> rfl) | (simp [*, errW_none, errW_some] <;> rfl), by repeat (first | (with_reducible first | exact HB.out | apply bal | apply pdn | apply bd1) | exact HB.out)⟩

/-! ### impl_between: function 47 -/
def impl_between.f (a0 : Int) (a1 : Int) (a2 : Int) : Option (Bool) := if a0 ≥ a1 then (some (decide (a0 ≤ a2))) else (some false)
set_option maxHeartbeats 8000000 in
set_option maxRecDepth 100000 in
theorem impl_between.calls (a0 : Int) (a1 : Int) (a2 : Int) (r : Bool) (w : World) (h : impl_between.f a0 a1 a2 = some r) :
  Calls Try.prog 47 #[.int .i64 a0, .int .i64 a1, .int .i64 a2] w fun e w' => e = .returned (.bool r) ∧ Drawn0 w w' := by
 have H : (if a0 ≥ a1 then (some (decide (a0 ≤ a2))) else (some false)) = some r := h
 clear h
 by_cases c4 : a0 ≥ a1
 ·rw [if_pos c4] at H
  have c4b0 : decide (a1 ≤ a0) = true := decide_eq_true c4
  clear c4
  obtain rfl := Option.some.inj H
  go_enter Try.func47, Try.ntmps47
  go_wp2
  go_ret
  exact ⟨by first | rfl | (simp; done) | (simp [*]; done), by repeat (first | exact Drawn0.refl _ | apply Drawn0.step)⟩
 ·rw [if_neg c4] at H
  have c4b0 : decide (a1 ≤ a0) = false := decide_eq_false c4
  clear c4
  obtain rfl := Option.some.inj H
  go_enter Try.func47, Try.ntmps47
  go_wp2
  go_ret
  exact ⟨by first | rfl | (simp; done) | (simp [*]; done), by repeat (first | exact Drawn0.refl _ | apply Drawn0.step)⟩

/-! ### slices_Index_int64_int64: function 50 -/
def slices_Index_int64_int64.l0 : Nat → List Int → Int → Int → Int → Option (Int)
 | 0, _, _, _, _ => none
 | k + 1, x0, x1, x7, x8 => if x8 < x7 then (if 0 ≤ x8 then (if x8 < (x0.length : Int) then (if x1 = (rd x0 x8) then (some x8) else (slices_Index_int64_int64.l0 k x0 x1 x7 (wrap64 (x8 + 1)))) else (none)) else (none)) else (some (-1))
def slices_Index_int64_int64.f (k : Nat) (l0 : List Int) (a1 : Int) : Option (Int) := slices_Index_int64_int64.l0 k l0 a1 (l0.length : Int) 0
theorem slices_Index_int64_int64.mono_l : ∀ k, (∀ y0 y1 y2 y3, LeO (slices_Index_int64_int64.l0 k y0 y1 y2 y3) (slices_Index_int64_int64.l0 (k + 1) y0 y1 y2 y3))
 | 0 => fun _ _ _ _ r h => by simp [slices_Index_int64_int64.l0] at h
 | k + 1 => by
  have ih0 := slices_Index_int64_int64.mono_l k
  ·intro y0 y1 y2 y3
   unfold slices_Index_int64_int64.l0
   repeat' first
   | (with_reducible exact ih0 _ _ _ _)
   | (with_reducible exact LeO.refl _)
   | (with_reducible exact LeO.none _)
   | (with_reducible refine LeO.ite ?_ ?_)
   | (with_reducible refine LeO.bind ?_ (fun _ => ?_))
   | exact ih0 _ _ _ _
   | exact LeO.none _
   | refine LeO.ite ?_ ?_
   | refine LeO.bind ?_ (fun _ => ?_)
theorem slices_Index_int64_int64.mono : ∀ a0 a1 k, LeO (slices_Index_int64_int64.f k a0 a1) (slices_Index_int64_int64.f (k + 1) a0 a1) := by
 intro a0 a1 k
 have ih0 := slices_Index_int64_int64.mono_l k
 unfold slices_Index_int64_int64.f
 repeat' first
   | (with_reducible exact ih0 _ _ _ _)
   | (with_reducible exact LeO.refl _)
   | (with_reducible exact LeO.none _)
   | (with_reducible refine LeO.ite ?_ ?_)
   | (with_reducible refine LeO.bind ?_ (fun _ => ?_))
   | exact ih0 _ _ _ _
   | exact LeO.none _
   | refine LeO.ite ?_ ?_
   | refine LeO.bind ?_ (fun _ => ?_)
set_option maxHeartbeats 8000000 in
set_option maxRecDepth 100000 in
theorem slices_Index_int64_int64.calls (k : Nat) (A0 : Option Addr) (c0 : Nat) (l0 : List Int) (a1 : Int) (r : Int) (w : World) (hr0 : Kd.C (Kd.int .i64) w A0 l0.length l0) (hc0 : l0.length ≤ c0) (h : slices_Index_int64_int64.f k l0 a1 = some r) :
  Calls Try.prog 50 #[.slice A0 l0.length c0, .int .i64 a1] w fun e w' => e = .returned (.int .i64 r) ∧ Drawn0 w w' := by
 have HR0 := am hr0
 have HC0 := am hc0
 clear hr0 hc0
 have H : (slices_Index_int64_int64.l0 k l0 a1 (l0.length : Int) 0) = some r := h
 clear h
 have H' := am H
 clear H
 go_enter Try.func50, Try.ntmps50
 go_wp2
 go_loopg [8] k (fun kq v8 w' => ∃ (x8_1 : Int), v8 = .int .i64 x8_1 ∧ Aside0 (slices_Index_int64_int64.l0 kq l0 a1 (l0.length : Int) x8_1 = some r) ∧ Aside0 (kq ≤ k) ∧ Drawn0 w w')
 case atStart => exact ⟨(0), (by first | rfl | (simp; done) | (simp [*]; done)), H', ⟨Nat.le_refl _⟩, by repeat (first | exact Drawn0.refl _ | apply Drawn0.step)⟩
 case round =>
  clear H'
  obtain ⟨x8_1, rfl, HA, HK1, ⟨m1, rfl⟩⟩ := hrel
  cases gk with
  | zero => exact absurd HA.out (by simp [slices_Index_int64_int64.l0])
  | succ k1 =>
   have H := HA.out
   clear HA
   simp only [slices_Index_int64_int64.l0] at H
   by_cases c3 : x8_1 < (l0.length : Int)
   ·rw [if_pos c3] at H
    have c3b0 : decide (x8_1 < (l0.length : Int)) = true := decide_eq_true c3
    clear c3
    by_cases c4 : 0 ≤ x8_1
    ·rw [if_pos c4] at H
     have c4b0 : decide (0 ≤ x8_1) = true := decide_eq_true c4
     clear c4
     by_cases c5 : x8_1 < (l0.length : Int)
     ·rw [if_pos c5] at H
      have c5b0 : decide (x8_1 < (l0.length : Int)) = true := decide_eq_true c5
      clear c5
      by_cases c6 : a1 = (rd l0 x8_1)
      ·rw [if_pos c6] at H
       have c6b0 : (a1 == (rd l0 x8_1)) = true := beq_iff_eq.mpr c6
       have c6b1 : (a1 != (rd l0 x8_1)) = false := bne_eq_false_iff_eq.mpr c6
       clear c6
       obtain rfl := Option.some.inj H
       have p179 : 0 ≤ (x8_1 : Int) := of_decide_eq_true (by first | (with_reducible assumption) | assumption)
       have q179 : x8_1 < (l0.length : Int) := of_decide_eq_true (by first | (with_reducible assumption) | assumption)
       obtain ⟨ad179, e179, hx179_0⟩ := Kd.at_int HR0.out x8_1 p179 q179
       cases e179
       replace p179 := eq_true p179
       replace q179 := eq_true q179
       go_wp2
       go_ret
       exact ⟨by first | rfl | (simp; done) | (simp [*]; done), by repeat (first | exact Drawn0.refl _ | apply Drawn0.step)⟩
      ·rw [if_neg c6] at H
       have c6b0 : (a1 == (rd l0 x8_1)) = false := beq_eq_false_iff_ne.mpr c6
       have c6b1 : (a1 != (rd l0 x8_1)) = true := bne_iff_ne.mpr c6
       have H' := am H
       clear H
       have p179 : 0 ≤ (x8_1 : Int) := of_decide_eq_true (by first | (with_reducible assumption) | assumption)
       have q179 : x8_1 < (l0.length : Int) := of_decide_eq_true (by first | (with_reducible assumption) | assumption)
       obtain ⟨ad179, e179, hx179_0⟩ := Kd.at_int HR0.out x8_1 p179 q179
       cases e179
       replace p179 := eq_true p179
       replace q179 := eq_true q179
       go_wp2
       go_roundg k1
       case measure => have := HK1.out; omega
       case rel => exact ⟨(wrap64 (x8_1 + 1)), (by first | rfl | (simp; done) | (simp [*]; done)), H', ⟨by have := HK1.out; omega⟩, by repeat (first | exact Drawn0.refl _ | apply Drawn0.step)⟩
     ·rw [if_neg c5] at H
      exact absurd H (by simp)
    ·rw [if_neg c4] at H
     exact absurd H (by simp)
   ·rw [if_neg c3] at H
    have c3b0 : decide (x8_1 < (l0.length : Int)) = false := decide_eq_false c3
    clear c3
    obtain rfl := Option.some.inj H
    go_wp2
    go_ret
    exact ⟨by first | rfl | (simp; done) | (simp [*]; done), by repeat (first | exact Drawn0.refl _ | apply Drawn0.step)⟩

/-! ### slices_Contains_int64_int64: function 48 -/
def slices_Contains_int64_int64.f (k : Nat) (l0 : List Int) (a1 : Int) : Option (Bool) := (slices_Index_int64_int64.f k l0 a1).bind fun t180 => (some (decide (t180 ≥ 0)))
theorem slices_Contains_int64_int64.mono : ∀ a0 a1 k, LeO (slices_Contains_int64_int64.f k a0 a1) (slices_Contains_int64_int64.f (k + 1) a0 a1) := by
 intro a0 a1 k
 unfold slices_Contains_int64_int64.f
 repeat' first
   | (with_reducible exact slices_Index_int64_int64.mono _ _ _)
   | (with_reducible exact LeO.refl _)
   | (with_reducible exact LeO.none _)
   | (with_reducible refine LeO.ite ?_ ?_)
   | (with_reducible refine LeO.bind ?_ (fun _ => ?_))
   | exact slices_Index_int64_int64.mono _ _ _
   | exact LeO.none _
   | refine LeO.ite ?_ ?_
   | refine LeO.bind ?_ (fun _ => ?_)
set_option maxHeartbeats 8000000 in
set_option maxRecDepth 100000 in
theorem slices_Contains_int64_int64.calls (k : Nat) (A0 : Option Addr) (c0 : Nat) (l0 : List Int) (a1 : Int) (r : Bool) (w : World) (hr0 : Kd.C (Kd.int .i64) w A0 l0.length l0) (hc0 : l0.length ≤ c0) (h : slices_Contains_int64_int64.f k l0 a1 = some r) :
  Calls Try.prog 48 #[.slice A0 l0.length c0, .int .i64 a1] w fun e w' => e = .returned (.bool r) ∧ Drawn0 w w' := by
 have HR0 := am hr0
 have HC0 := am hc0
 clear hr0 hc0
 have H : ((slices_Index_int64_int64.f k l0 a1).bind fun t180 => (some (decide (t180 ≥ 0)))) = some r := h
 clear h
 replace H := Option.bind_eq_some_iff.mp H
 obtain ⟨t180, A30, H⟩ := H
 replace H : (some (decide (t180 ≥ 0))) = some r := H
 have A3 := am A30
 clear A30
 obtain rfl := Option.some.inj H
 go_enter Try.func48, Try.ntmps48
 go_wp2_with (first | ((with_reducible refine gate_callee (f := 50) rfl ?_); refine goesL_ (some 7) rfl rfl Try.func50 (by kernel_rfl) rfl #[.slice A0 l0.length c0, .int .i64 a1] rfl (by (try simp only [mta, mco, mni]); first | done | rfl | (simp only [lnd, lnt]; rfl)) ?_; (with_reducible refine (slices_Index_int64_int64.calls k _ _ l0 a1 t180 _ ?side1 ?side2 A3.out).mono ?_); (case side1 => repeat (first | exact HR0.out | (with_reducible first | apply kca | apply kcn | apply kcd))); (case side2 => exact HC0.out); rintro e w' ⟨rfl, ⟨nd, rfl⟩⟩; refine ⟨_, rfl, ?_⟩))
 go_ret
 exact ⟨by first | rfl | (simp; done) | (simp [*]; done), by repeat (first | exact Drawn0.refl _ | apply Drawn0.step)⟩

/-! ### impl_ActingOk: function 15 -/
def impl_ActingOk.l0 : Nat → List Int → List Int → Int → Int → Option (Bool)
 | 0, _, _, _, _ => none
 | k + 1, x0, x5, x6, x7 => if x7 < x6 then (if 0 ≤ x7 then (if x7 < (x5.length : Int) then ((impl_between.f (rd x5 x7) (-1) 15).bind fun t183 => (if t183 = true then (if (rd x5 x7) ≥ 0 then (if x7 ≤ (x0.length : Int) then ((slices_Contains_int64_int64.f k (x0.take (x7 : Int).toNat) (rd x5 x7)).bind fun t185 => (if t185 = true then (some false) else (impl_ActingOk.l0 k x0 x5 x6 (wrap64 (x7 + 1))))) else (none)) else (impl_ActingOk.l0 k x0 x5 x6 (wrap64 (x7 + 1)))) else (some false))) else (none)) else (none)) else ((impl_between.f (x0.length : Int) 1 7).bind fun t181 => (some t181))
def impl_ActingOk.f (k : Nat) (l0 : List Int) : Option (Bool) := impl_ActingOk.l0 k l0 l0 (l0.length : Int) 0
theorem impl_ActingOk.mono_l : ∀ k, (∀ y0 y1 y2 y3, LeO (impl_ActingOk.l0 k y0 y1 y2 y3) (impl_ActingOk.l0 (k + 1) y0 y1 y2 y3))
 | 0 => fun _ _ _ _ r h => by simp [impl_ActingOk.l0] at h
 | k + 1 => by
  have ih0 := impl_ActingOk.mono_l k
  ·intro y0 y1 y2 y3
   unfold impl_ActingOk.l0
   repeat' first
   | (with_reducible exact ih0 _ _ _ _)
   | (with_reducible exact slices_Contains_int64_int64.mono _ _ _)
   | (with_reducible exact LeO.refl _)
   | (with_reducible exact LeO.none _)
   | (with_reducible refine LeO.ite ?_ ?_)
   | (with_reducible refine LeO.bind ?_ (fun _ => ?_))
   | exact ih0 _ _ _ _
   | exact slices_Contains_int64_int64.mono _ _ _
   | exact LeO.none _
   | refine LeO.ite ?_ ?_
   | refine LeO.bind ?_ (fun _ => ?_)
theorem impl_ActingOk.mono : ∀ a0 k, LeO (impl_ActingOk.f k a0) (impl_ActingOk.f (k + 1) a0) := by
 intro a0 k
 have ih0 := impl_ActingOk.mono_l k
 unfold impl_ActingOk.f
 repeat' first
   | (with_reducible exact ih0 _ _ _ _)
   | (with_reducible exact slices_Contains_int64_int64.mono _ _ _)
   | (with_reducible exact LeO.refl _)
   | (with_reducible exact LeO.none _)
   | (with_reducible refine LeO.ite ?_ ?_)
   | (with_reducible refine LeO.bind ?_ (fun _ => ?_))
   | exact ih0 _ _ _ _
   | exact slices_Contains_int64_int64.mono _ _ _
   | exact LeO.none _
   | refine LeO.ite ?_ ?_
   | refine LeO.bind ?_ (fun _ => ?_)
set_option maxHeartbeats 8000000 in
set_option maxRecDepth 100000 in
theorem impl_ActingOk.calls (k : Nat) (A0 : Option Addr) (c0 : Nat) (l0 : List Int) (r : Bool) (w : World) (hr0 : Kd.C (Kd.int .i64) w A0 l0.length l0) (hc0 : l0.length ≤ c0) (h : impl_ActingOk.f k l0 = some r) :
  Calls Try.prog 15 #[.slice A0 l0.length c0] w fun e w' => e = .returned (.bool r) ∧ Drawn0 w w' := by
 have HR0 := am hr0
 have HC0 := am hc0
 clear hr0 hc0
 have H : (impl_ActingOk.l0 k l0 l0 (l0.length : Int) 0) = some r := h
 clear h
 have H' := am H
 clear H
 go_enter Try.func15, Try.ntmps15
 go_wp2
 go_loopg [7] k (fun kq v7 w' => ∃ (x7_1 : Int), v7 = .int .i64 x7_1 ∧ Aside0 (impl_ActingOk.l0 kq l0 l0 (l0.length : Int) x7_1 = some r) ∧ Aside0 (kq ≤ k) ∧ Drawn0 w w')
 case atStart => exact ⟨(0), (by first | rfl | (simp; done) | (simp [*]; done)), H', ⟨Nat.le_refl _⟩, by repeat (first | exact Drawn0.refl _ | apply Drawn0.step)⟩
 case round =>
  clear H'
  obtain ⟨x7_1, rfl, HA, HK1, ⟨m1, rfl⟩⟩ := hrel
  cases gk with
  | zero => exact absurd HA.out (by simp [impl_ActingOk.l0])
  | succ k1 =>
   have H := HA.out
   clear HA
   simp only [impl_ActingOk.l0] at H
   by_cases c2 : x7_1 < (l0.length : Int)
   ·rw [if_pos c2] at H
    have c2b0 : decide (x7_1 < (l0.length : Int)) = true := decide_eq_true c2
    clear c2
    by_cases c3 : 0 ≤ x7_1
    ·rw [if_pos c3] at H
     have c3b0 : decide (0 ≤ x7_1) = true := decide_eq_true c3
     clear c3
     by_cases c4 : x7_1 < (l0.length : Int)
     ·rw [if_pos c4] at H
      have c4b0 : decide (x7_1 < (l0.length : Int)) = true := decide_eq_true c4
      clear c4
      replace H := Option.bind_eq_some_iff.mp H
      obtain ⟨t183, A50, H⟩ := H
      replace H : (if t183 = true then (if (rd l0 x7_1) ≥ 0 then (if x7_1 ≤ (l0.length : Int) then ((slices_Contains_int64_int64.f k1 (l0.take (x7_1 : Int).toNat) (rd l0 x7_1)).bind fun t185 => (if t185 = true then (some false) else (impl_ActingOk.l0 k1 l0 l0 (l0.length : Int) (wrap64 (x7_1 + 1))))) else (none)) else (impl_ActingOk.l0 k1 l0 l0 (l0.length : Int) (wrap64 (x7_1 + 1)))) else (some false)) = some r := H
      have A5 := am A50
      clear A50
      by_cases c6 : t183 = true
      ·subst c6
       have H1 : (if (rd l0 x7_1) ≥ 0 then (if x7_1 ≤ (l0.length : Int) then ((slices_Contains_int64_int64.f k1 (l0.take (x7_1 : Int).toNat) (rd l0 x7_1)).bind fun t185 => (if t185 = true then (some false) else (impl_ActingOk.l0 k1 l0 l0 (l0.length : Int) (wrap64 (x7_1 + 1))))) else (none)) else (impl_ActingOk.l0 k1 l0 l0 (l0.length : Int) (wrap64 (x7_1 + 1)))) = some r := by rw [if_pos rfl] at H; exact H
       clear H
       have H := H1
       clear H1
       by_cases c7 : (rd l0 x7_1) ≥ 0
       ·rw [if_pos c7] at H
        have c7b0 : decide (0 ≤ (rd l0 x7_1)) = true := decide_eq_true c7
        clear c7
        have c8b0 := eq_true (of_decide_eq_true (by first | (with_reducible assumption) | assumption) : 0 ≤ x7_1)
        by_cases c9 : x7_1 ≤ (l0.length : Int)
        ·rw [if_pos c9] at H
         have c9b0 := eq_true c9
         have c9b1 : decide (x7_1 ≤ (l0.length : Int)) = true := decide_eq_true c9
         clear c9
         replace H := Option.bind_eq_some_iff.mp H
         obtain ⟨t185, A100, H⟩ := H
         replace H : (if t185 = true then (some false) else (impl_ActingOk.l0 k1 l0 l0 (l0.length : Int) (wrap64 (x7_1 + 1)))) = some r := H
         have A10 := am A100
         clear A100
         by_cases c11 : t185 = true
         ·subst c11
          have H1 : (some false) = some r := by rw [if_pos rfl] at H; exact H
          clear H
          have H := H1
          clear H1
          obtain rfl := Option.some.inj H
          have p182 : 0 ≤ (x7_1 : Int) := of_decide_eq_true (by first | (with_reducible assumption) | assumption)
          have q182 : x7_1 < (l0.length : Int) := of_decide_eq_true (by first | (with_reducible assumption) | assumption)
          obtain ⟨ad182, e182, hx182_0⟩ := Kd.at_int HR0.out x7_1 p182 q182
          cases e182
          replace p182 := eq_true p182
          replace q182 := eq_true q182
          go_wp2_with (first | ((with_reducible refine gate_callee (f := 47) rfl ?_); refine goesL_ (some 13) rfl rfl Try.func47 (by kernel_rfl) rfl #[.int .i64 (rd l0 x7_1), .int .i64 (-1), .int .i64 15] rfl (by (try simp only [mta, mco, mni]); first | done | rfl | (simp only [lnd, lnt]; rfl)) ?_; (with_reducible refine (impl_between.calls (rd l0 x7_1) (-1) 15 true _ A5.out).mono ?_); rintro e w' ⟨rfl, ⟨nd, rfl⟩⟩; refine ⟨_, rfl, ?_⟩; obtain ⟨i012, hi012, _, hsz12, _⟩ := info_parts info2; obtain ⟨hcut12, hA12, hC12⟩ := print_take_of (P := Try.prog) (Value.int .i64) 0 22 2 .i64 Try.underlying22 hi012 hsz12 (some ad182) c0 l0 x7_1 (of_decide_eq_true (by first | (with_reducible assumption) | assumption)) (of_decide_eq_true (by first | (with_reducible assumption) | assumption)) HC0.out; have HL12 := am (show (x7_1 : Int).toNat = (l0.take (x7_1 : Int).toNat).length from (by rw [lnt]; have z1_ : 0 ≤ (x7_1 : Int) := (of_decide_eq_true (by first | (with_reducible assumption) | assumption)); have z2_ : (x7_1 : Int) ≤ l0.length := (of_decide_eq_true (by first | (with_reducible assumption) | assumption)); omega)); have HR184 := am (Kd.C_of_reads (h1 := fun _ => rfl) (hA12 _ (Kd.reads_of_C HR0.out))); have HC184 := am hC12; clear hA12 hC12 hi012 hsz12) | (go_at_call 48; (try rw [HL12.out]); (with_reducible refine (slices_Contains_int64_int64.calls k1 _ _ (l0.take (x7_1 : Int).toNat) (rd l0 x7_1) true _ ?side1 ?side2 A10.out).mono ?_); (case side1 => repeat (first | exact HR184.out | (with_reducible first | apply kca | apply kcn | apply kcd))); (case side2 => exact HC184.out); rintro e w' ⟨rfl, ⟨nd, rfl⟩⟩))
          go_ret
          exact ⟨by first | rfl | (simp; done) | (simp [*]; done), by repeat (first | exact Drawn0.refl _ | apply Drawn0.step)⟩
         ·replace c11 := Bool.eq_false_iff.mpr c11
          subst c11
          have H1 : (impl_ActingOk.l0 k1 l0 l0 (l0.length : Int) (wrap64 (x7_1 + 1))) = some r := by rw [if_neg (show ¬ (false = true) by decide)] at H; exact H
          clear H
          have H := H1
          clear H1
          have H' := am H
          clear H
          have p182 : 0 ≤ (x7_1 : Int) := of_decide_eq_true (by first | (with_reducible assumption) | assumption)
          have q182 : x7_1 < (l0.length : Int) := of_decide_eq_true (by first | (with_reducible assumption) | assumption)
          obtain ⟨ad182, e182, hx182_0⟩ := Kd.at_int HR0.out x7_1 p182 q182
          cases e182
          replace p182 := eq_true p182
          replace q182 := eq_true q182
          go_wp2_with (first | ((with_reducible refine gate_callee (f := 47) rfl ?_); refine goesL_ (some 13) rfl rfl Try.func47 (by kernel_rfl) rfl #[.int .i64 (rd l0 x7_1), .int .i64 (-1), .int .i64 15] rfl (by (try simp only [mta, mco, mni]); first | done | rfl | (simp only [lnd, lnt]; rfl)) ?_; (with_reducible refine (impl_between.calls (rd l0 x7_1) (-1) 15 true _ A5.out).mono ?_); rintro e w' ⟨rfl, ⟨nd, rfl⟩⟩; refine ⟨_, rfl, ?_⟩; obtain ⟨i013, hi013, _, hsz13, _⟩ := info_parts info2; obtain ⟨hcut13, hA13, hC13⟩ := print_take_of (P := Try.prog) (Value.int .i64) 0 22 2 .i64 Try.underlying22 hi013 hsz13 (some ad182) c0 l0 x7_1 (of_decide_eq_true (by first | (with_reducible assumption) | assumption)) (of_decide_eq_true (by first | (with_reducible assumption) | assumption)) HC0.out; have HL13 := am (show (x7_1 : Int).toNat = (l0.take (x7_1 : Int).toNat).length from (by rw [lnt]; have z1_ : 0 ≤ (x7_1 : Int) := (of_decide_eq_true (by first | (with_reducible assumption) | assumption)); have z2_ : (x7_1 : Int) ≤ l0.length := (of_decide_eq_true (by first | (with_reducible assumption) | assumption)); omega)); have HR184 := am (Kd.C_of_reads (h1 := fun _ => rfl) (hA13 _ (Kd.reads_of_C HR0.out))); have HC184 := am hC13; clear hA13 hC13 hi013 hsz13) | (go_at_call 48; (try rw [HL13.out]); (with_reducible refine (slices_Contains_int64_int64.calls k1 _ _ (l0.take (x7_1 : Int).toNat) (rd l0 x7_1) false _ ?side1 ?side2 A10.out).mono ?_); (case side1 => repeat (first | exact HR184.out | (with_reducible first | apply kca | apply kcn | apply kcd))); (case side2 => exact HC184.out); rintro e w' ⟨rfl, ⟨nd, rfl⟩⟩))
          go_roundg k1
          case measure => have := HK1.out; omega
          case rel => exact ⟨(wrap64 (x7_1 + 1)), (by first | rfl | (simp; done) | (simp [*]; done)), H', ⟨by have := HK1.out; omega⟩, by repeat (first | exact Drawn0.refl _ | apply Drawn0.step)⟩
        ·rw [if_neg c9] at H
         exact absurd H (by simp)
       ·rw [if_neg c7] at H
        have c7b0 : decide (0 ≤ (rd l0 x7_1)) = false := decide_eq_false c7
        clear c7
        have H' := am H
        clear H
        have p182 : 0 ≤ (x7_1 : Int) := of_decide_eq_true (by first | (with_reducible assumption) | assumption)
        have q182 : x7_1 < (l0.length : Int) := of_decide_eq_true (by first | (with_reducible assumption) | assumption)
        obtain ⟨ad182, e182, hx182_0⟩ := Kd.at_int HR0.out x7_1 p182 q182
        cases e182
        replace p182 := eq_true p182
        replace q182 := eq_true q182
        go_wp2_with (first | ((with_reducible refine gate_callee (f := 47) rfl ?_); refine goesL_ (some 13) rfl rfl Try.func47 (by kernel_rfl) rfl #[.int .i64 (rd l0 x7_1), .int .i64 (-1), .int .i64 15] rfl (by (try simp only [mta, mco, mni]); first | done | rfl | (simp only [lnd, lnt]; rfl)) ?_; (with_reducible refine (impl_between.calls (rd l0 x7_1) (-1) 15 true _ A5.out).mono ?_); rintro e w' ⟨rfl, ⟨nd, rfl⟩⟩; refine ⟨_, rfl, ?_⟩))
        go_roundg k1
        case measure => have := HK1.out; omega
        case rel => exact ⟨(wrap64 (x7_1 + 1)), (by first | rfl | (simp; done) | (simp [*]; done)), H', ⟨by have := HK1.out; omega⟩, by repeat (first | exact Drawn0.refl _ | apply Drawn0.step)⟩
      ·replace c6 := Bool.eq_false_iff.mpr c6
       subst c6
       have H1 : (some false) = some r := by rw [if_neg (show ¬ (false = true) by decide)] at H; exact H
       clear H
       have H := H1
       clear H1
       obtain rfl := Option.some.inj H
       have p182 : 0 ≤ (x7_1 : Int) := of_decide_eq_true (by first | (with_reducible assumption) | assumption)
       have q182 : x7_1 < (l0.length : Int) := of_decide_eq_true (by first | (with_reducible assumption) | assumption)
       obtain ⟨ad182, e182, hx182_0⟩ := Kd.at_int HR0.out x7_1 p182 q182
       cases e182
       replace p182 := eq_true p182
       replace q182 := eq_true q182
       go_wp2_with (first | ((with_reducible refine gate_callee (f := 47) rfl ?_); refine goesL_ (some 13) rfl rfl Try.func47 (by kernel_rfl) rfl #[.int .i64 (rd l0 x7_1), .int .i64 (-1), .int .i64 15] rfl (by (try simp only [mta, mco, mni]); first | done | rfl | (simp only [lnd, lnt]; rfl)) ?_; (with_reducible refine (impl_between.calls (rd l0 x7_1) (-1) 15 false _ A5.out).mono ?_); rintro e w' ⟨rfl, ⟨nd, rfl⟩⟩; refine ⟨_, rfl, ?_⟩))
       go_ret
       exact ⟨by first | rfl | (simp; done) | (simp [*]; done), by repeat (first | exact Drawn0.refl _ | apply Drawn0.step)⟩
     ·rw [if_neg c4] at H
      exact absurd H (by simp)
    ·rw [if_neg c3] at H
     exact absurd H (by simp)
   ·rw [if_neg c2] at H
    have c2b0 : decide (x7_1 < (l0.length : Int)) = false := decide_eq_false c2
    clear c2
    replace H := Option.bind_eq_some_iff.mp H
    obtain ⟨t181, A140, H⟩ := H
    replace H : (some t181) = some r := H
    have A14 := am A140
    clear A140
    obtain rfl := Option.some.inj H
    go_wp2_with (first | ((with_reducible refine gate_callee (f := 47) rfl ?_); refine goesL_ (some 29) rfl rfl Try.func47 (by kernel_rfl) rfl #[.int .i64 (l0.length : Int), .int .i64 1, .int .i64 7] rfl (by (try simp only [mta, mco, mni]); first | done | rfl | (simp only [lnd, lnt]; rfl)) ?_; (with_reducible refine (impl_between.calls (l0.length : Int) 1 7 t181 _ A14.out).mono ?_); rintro e w' ⟨rfl, ⟨nd, rfl⟩⟩; refine ⟨_, rfl, ?_⟩))
    go_ret
    exact ⟨by first | rfl | (simp; done) | (simp [*]; done), by repeat (first | exact Drawn0.refl _ | apply Drawn0.step)⟩

end Go.Proofs.Ytfeaokelfbjcdaa.MFnHeard
