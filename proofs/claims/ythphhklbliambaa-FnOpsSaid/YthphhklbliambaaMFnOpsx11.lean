-- Written by a program of this session (wip/tools/myprint.py) over the kit's print: it is not the kit's print.
import Derived.Test.YthphhklbliambaaExtra
import Derived.Test.YthphhklbliambaaMFnOpsx0
import Derived.Test.YthphhklbliambaaMFnOpsx1
import Derived.Test.YthphhklbliambaaMFnOpsx2
import Derived.Test.YthphhklbliambaaMFnOpsx3
import Derived.Test.YthphhklbliambaaMFnOpsx4
import Derived.Test.YthphhklbliambaaMFnOpsx5
import Derived.Test.YthphhklbliambaaMFnOpsx7
import Derived.Test.YthphhklbliambaaMFnOpsx8
import Derived.Test.YthphhklbliambaaMFnOpsx10
namespace Go.Proofs.Ythphhklbliambaa.MFnOps
open Go.RowKit Go.Proofs.YthphhklbliambaaW.PrintWords Go.Proofs.YthphhklbliambaaW.PrintLast Go.Proofs.YthphhklbliambaaW.PrintMore
open List renaming setIfInBounds_toArray → sit, set_cons_zero → scz, set_cons_succ → scs, map_toArray → mta, map_cons → mco, map_nil → mni, length_drop → lnd, length_take → lnt
attribute [local go_sem] max2_int min2_int max_two min_two max_three min_three max_four min_four   -- for this text's walks alone
set_option linter.unusedVariables false
set_option linter.unusedSimpArgs false

attribute [local go_sem high] eqA60
/-! ### laws_FnOps: function 14 -/
mutual
def laws_FnOps.j0 : Nat → List Int → ByteArray → Bool → List (S60) → ByteArray → Bool → Bool → Option (Bool)
 | 0, _, _, _, _, _, _, _ => none
 | k + 1, x1, x5, x6, x7, x8, x9, x66 => if x66 = true then (some false) else ((spec_DrawPutOp.f k x1).bind fun bt309 => ((impl_PutOp.f k bt309.1 bt309.2.1 bt309.2.2).bind fun t313 => (if t313.toList = ([] : List UInt8) then (laws_FnOps.j1 k x1 x5 x6 x7 x8 x9) else (if t313.size + 2 ≤ 9223372036854775807 then ((impl_GetOp.f k (t313 ++ (⟨#[122, 122]⟩ : ByteArray))).bind fun bt314 => (if bt314.2.2.2.2 = true then (if (!(bt314.1 == bt309.1) || (!(bt314.2.1 == bt309.2.1) || (!(bt314.2.2.1.toList == bt309.2.2.toList)))) = true then (some false) else (if bt314.2.2.2.1 = (t313.size : Int) then (laws_FnOps.j1 k x1 x5 x6 x7 x8 x9) else (some false))) else (some false))) else (none)))))
def laws_FnOps.j1 : Nat → List Int → ByteArray → Bool → List (S60) → ByteArray → Bool → Option (Bool)
 | 0, _, _, _, _, _, _ => none
 | k + 1, x1, x5, x6, x7, x8, x9 => laws_FnOps.l0 k x1 x5 x6 x7 x8 x9 0
def laws_FnOps.l0 : Nat → List Int → ByteArray → Bool → List (S60) → ByteArray → Bool → Int → Option (Bool)
 | 0, _, _, _, _, _, _, _ => none
 | k + 1, x1, x5, x6, x7, x8, x9, x17 => if x17 < (x7.length : Int) then (if 0 ≤ x17 then ((spec_OpOk.f k 1 0 ((rd_T60 x7 x17).f0) ((rd_T60 x7 x17).f1) ((rd_T60 x7 x17).f2)).bind fun t321 => (if t321 = true then (laws_FnOps.l0 k x1 x5 x6 x7 x8 x9 (wrap64 (x17 + 1))) else (some true))) else (none)) else (if (x7.length : Int) > 24 then (laws_FnOps.j3 k x1 x5 x6 x7 x8 x9 true) else (laws_FnOps.j3 k x1 x5 x6 x7 x8 x9 (decide ((x5.size : Int) > 64))))
def laws_FnOps.j3 : Nat → List Int → ByteArray → Bool → List (S60) → ByteArray → Bool → Bool → Option (Bool)
 | 0, _, _, _, _, _, _, _ => none
 | k + 1, x1, x5, x6, x7, x8, x9, x113 => if x113 = true then (some true) else ((laws_b10At.f x1 0 (wrap64 ((x7.length : Int) + 1))).bind fun t322 => (if 0 ≤ t322 then (if t322 ≤ (x7.length : Int) then ((impl_ApplyOps.f x5 x6 (x7.take (t322 : Int).toNat)).bind fun bt327 => ((impl_ApplyOps.f bt327.1 bt327.2 (x7.drop (t322 : Int).toNat)).bind fun bt333 => (if bt333.1.toList = x8.toList then (some (bt333.2 == x9)) else (some false)))) else (none)) else (none)))
end
def laws_FnOps.f (k : Nat) (l0 : List Int) (l1 : List Int) : Option (Bool) := (laws_b10Long.f l0 l1).bind fun t299 => (if t299 = true then (some true) else ((spec_DrawApplyOps.f k l0).bind fun bt300 => ((impl_ApplyOps.f bt300.1 bt300.2.1 bt300.2.2).bind fun bt305 => ((spec_ApplyOps.f k bt300.1 bt300.2.1 bt300.2.2).bind fun bt307 => (if bt305.1.toList = bt307.1.toList then (if (bt305.2 != bt307.2) = true then (laws_FnOps.j0 k l1 bt300.1 bt300.2.1 bt300.2.2 bt305.1 bt305.2 true) else (if (bt305.1.size : Int) > 64 then (laws_FnOps.j0 k l1 bt300.1 bt300.2.1 bt300.2.2 bt305.1 bt305.2 true) else (if bt305.2 = true then (laws_FnOps.j0 k l1 bt300.1 bt300.2.1 bt300.2.2 bt305.1 bt305.2 false) else (laws_FnOps.j0 k l1 bt300.1 bt300.2.1 bt300.2.2 bt305.1 bt305.2 (bt305.1.toList != ([] : List UInt8)))))) else (laws_FnOps.j0 k l1 bt300.1 bt300.2.1 bt300.2.2 bt305.1 bt305.2 true))))))
theorem laws_FnOps.mono_l : ∀ k, (∀ y0 y1 y2 y3 y4 y5 y6, LeO (laws_FnOps.j0 k y0 y1 y2 y3 y4 y5 y6) (laws_FnOps.j0 (k + 1) y0 y1 y2 y3 y4 y5 y6)) ∧ (∀ y0 y1 y2 y3 y4 y5, LeO (laws_FnOps.j1 k y0 y1 y2 y3 y4 y5) (laws_FnOps.j1 (k + 1) y0 y1 y2 y3 y4 y5)) ∧ (∀ y0 y1 y2 y3 y4 y5 y6, LeO (laws_FnOps.l0 k y0 y1 y2 y3 y4 y5 y6) (laws_FnOps.l0 (k + 1) y0 y1 y2 y3 y4 y5 y6)) ∧ (∀ y0 y1 y2 y3 y4 y5 y6, LeO (laws_FnOps.j3 k y0 y1 y2 y3 y4 y5 y6) (laws_FnOps.j3 (k + 1) y0 y1 y2 y3 y4 y5 y6))
 | 0 => ⟨fun _ _ _ _ _ _ _ r h => by simp [laws_FnOps.j0] at h, fun _ _ _ _ _ _ r h => by simp [laws_FnOps.j1] at h, fun _ _ _ _ _ _ _ r h => by simp [laws_FnOps.l0] at h, fun _ _ _ _ _ _ _ r h => by simp [laws_FnOps.j3] at h⟩
 | k + 1 => by
  obtain ⟨ih0, ih1, ih2, ih3⟩ := laws_FnOps.mono_l k
  refine ⟨?_, ?_, ?_, ?_⟩
  ·intro y0 y1 y2 y3 y4 y5 y6
   unfold laws_FnOps.j0
   repeat' first
   | (with_reducible exact ih0 _ _ _ _ _ _ _)
   | (with_reducible exact ih1 _ _ _ _ _ _)
   | (with_reducible exact ih2 _ _ _ _ _ _ _)
   | (with_reducible exact ih3 _ _ _ _ _ _ _)
   | (with_reducible exact impl_GetOp.mono _ _)
   | (with_reducible exact impl_PutOp.mono _ _ _ _)
   | (with_reducible exact spec_ApplyOps.mono _ _ _ _)
   | (with_reducible exact spec_DrawApplyOps.mono _ _)
   | (with_reducible exact spec_DrawPutOp.mono _ _)
   | (with_reducible exact spec_OpOk.mono _ _ _ _ _ _)
   | (with_reducible exact LeO.refl _)
   | (with_reducible exact LeO.none _)
   | (with_reducible refine LeO.ite ?_ ?_)
   | (with_reducible refine LeO.bind ?_ (fun _ => ?_))
   | exact ih0 _ _ _ _ _ _ _
   | exact ih1 _ _ _ _ _ _
   | exact ih2 _ _ _ _ _ _ _
   | exact ih3 _ _ _ _ _ _ _
   | exact impl_GetOp.mono _ _
   | exact impl_PutOp.mono _ _ _ _
   | exact spec_ApplyOps.mono _ _ _ _
   | exact spec_DrawApplyOps.mono _ _
   | exact spec_DrawPutOp.mono _ _
   | exact spec_OpOk.mono _ _ _ _ _ _
   | exact LeO.none _
   | refine LeO.ite ?_ ?_
   | refine LeO.bind ?_ (fun _ => ?_)
  ·intro y0 y1 y2 y3 y4 y5
   unfold laws_FnOps.j1
   repeat' first
   | (with_reducible exact ih0 _ _ _ _ _ _ _)
   | (with_reducible exact ih1 _ _ _ _ _ _)
   | (with_reducible exact ih2 _ _ _ _ _ _ _)
   | (with_reducible exact ih3 _ _ _ _ _ _ _)
   | (with_reducible exact impl_GetOp.mono _ _)
   | (with_reducible exact impl_PutOp.mono _ _ _ _)
   | (with_reducible exact spec_ApplyOps.mono _ _ _ _)
   | (with_reducible exact spec_DrawApplyOps.mono _ _)
   | (with_reducible exact spec_DrawPutOp.mono _ _)
   | (with_reducible exact spec_OpOk.mono _ _ _ _ _ _)
   | (with_reducible exact LeO.refl _)
   | (with_reducible exact LeO.none _)
   | (with_reducible refine LeO.ite ?_ ?_)
   | (with_reducible refine LeO.bind ?_ (fun _ => ?_))
   | exact ih0 _ _ _ _ _ _ _
   | exact ih1 _ _ _ _ _ _
   | exact ih2 _ _ _ _ _ _ _
   | exact ih3 _ _ _ _ _ _ _
   | exact impl_GetOp.mono _ _
   | exact impl_PutOp.mono _ _ _ _
   | exact spec_ApplyOps.mono _ _ _ _
   | exact spec_DrawApplyOps.mono _ _
   | exact spec_DrawPutOp.mono _ _
   | exact spec_OpOk.mono _ _ _ _ _ _
   | exact LeO.none _
   | refine LeO.ite ?_ ?_
   | refine LeO.bind ?_ (fun _ => ?_)
  ·intro y0 y1 y2 y3 y4 y5 y6
   unfold laws_FnOps.l0
   repeat' first
   | (with_reducible exact ih0 _ _ _ _ _ _ _)
   | (with_reducible exact ih1 _ _ _ _ _ _)
   | (with_reducible exact ih2 _ _ _ _ _ _ _)
   | (with_reducible exact ih3 _ _ _ _ _ _ _)
   | (with_reducible exact impl_GetOp.mono _ _)
   | (with_reducible exact impl_PutOp.mono _ _ _ _)
   | (with_reducible exact spec_ApplyOps.mono _ _ _ _)
   | (with_reducible exact spec_DrawApplyOps.mono _ _)
   | (with_reducible exact spec_DrawPutOp.mono _ _)
   | (with_reducible exact spec_OpOk.mono _ _ _ _ _ _)
   | (with_reducible exact LeO.refl _)
   | (with_reducible exact LeO.none _)
   | (with_reducible refine LeO.ite ?_ ?_)
   | (with_reducible refine LeO.bind ?_ (fun _ => ?_))
   | exact ih0 _ _ _ _ _ _ _
   | exact ih1 _ _ _ _ _ _
   | exact ih2 _ _ _ _ _ _ _
   | exact ih3 _ _ _ _ _ _ _
   | exact impl_GetOp.mono _ _
   | exact impl_PutOp.mono _ _ _ _
   | exact spec_ApplyOps.mono _ _ _ _
   | exact spec_DrawApplyOps.mono _ _
   | exact spec_DrawPutOp.mono _ _
   | exact spec_OpOk.mono _ _ _ _ _ _
   | exact LeO.none _
   | refine LeO.ite ?_ ?_
   | refine LeO.bind ?_ (fun _ => ?_)
  ·intro y0 y1 y2 y3 y4 y5 y6
   unfold laws_FnOps.j3
   repeat' first
   | (with_reducible exact ih0 _ _ _ _ _ _ _)
   | (with_reducible exact ih1 _ _ _ _ _ _)
   | (with_reducible exact ih2 _ _ _ _ _ _ _)
   | (with_reducible exact ih3 _ _ _ _ _ _ _)
   | (with_reducible exact impl_GetOp.mono _ _)
   | (with_reducible exact impl_PutOp.mono _ _ _ _)
   | (with_reducible exact spec_ApplyOps.mono _ _ _ _)
   | (with_reducible exact spec_DrawApplyOps.mono _ _)
   | (with_reducible exact spec_DrawPutOp.mono _ _)
   | (with_reducible exact spec_OpOk.mono _ _ _ _ _ _)
   | (with_reducible exact LeO.refl _)
   | (with_reducible exact LeO.none _)
   | (with_reducible refine LeO.ite ?_ ?_)
   | (with_reducible refine LeO.bind ?_ (fun _ => ?_))
   | exact ih0 _ _ _ _ _ _ _
   | exact ih1 _ _ _ _ _ _
   | exact ih2 _ _ _ _ _ _ _
   | exact ih3 _ _ _ _ _ _ _
   | exact impl_GetOp.mono _ _
   | exact impl_PutOp.mono _ _ _ _
   | exact spec_ApplyOps.mono _ _ _ _
   | exact spec_DrawApplyOps.mono _ _
   | exact spec_DrawPutOp.mono _ _
   | exact spec_OpOk.mono _ _ _ _ _ _
   | exact LeO.none _
   | refine LeO.ite ?_ ?_
   | refine LeO.bind ?_ (fun _ => ?_)
theorem laws_FnOps.mono : ∀ a0 a1 k, LeO (laws_FnOps.f k a0 a1) (laws_FnOps.f (k + 1) a0 a1) := by
 intro a0 a1 k
 obtain ⟨ih0, ih1, ih2, ih3⟩ := laws_FnOps.mono_l k
 unfold laws_FnOps.f
 repeat' first
   | (with_reducible exact ih0 _ _ _ _ _ _ _)
   | (with_reducible exact ih1 _ _ _ _ _ _)
   | (with_reducible exact ih2 _ _ _ _ _ _ _)
   | (with_reducible exact ih3 _ _ _ _ _ _ _)
   | (with_reducible exact impl_GetOp.mono _ _)
   | (with_reducible exact impl_PutOp.mono _ _ _ _)
   | (with_reducible exact spec_ApplyOps.mono _ _ _ _)
   | (with_reducible exact spec_DrawApplyOps.mono _ _)
   | (with_reducible exact spec_DrawPutOp.mono _ _)
   | (with_reducible exact spec_OpOk.mono _ _ _ _ _ _)
   | (with_reducible exact LeO.refl _)
   | (with_reducible exact LeO.none _)
   | (with_reducible refine LeO.ite ?_ ?_)
   | (with_reducible refine LeO.bind ?_ (fun _ => ?_))
   | exact ih0 _ _ _ _ _ _ _
   | exact ih1 _ _ _ _ _ _
   | exact ih2 _ _ _ _ _ _ _
   | exact ih3 _ _ _ _ _ _ _
   | exact impl_GetOp.mono _ _
   | exact impl_PutOp.mono _ _ _ _
   | exact spec_ApplyOps.mono _ _ _ _
   | exact spec_DrawApplyOps.mono _ _
   | exact spec_DrawPutOp.mono _ _
   | exact spec_OpOk.mono _ _ _ _ _ _
   | exact LeO.none _
   | refine LeO.ite ?_ ?_
   | refine LeO.bind ?_ (fun _ => ?_)
set_option maxHeartbeats 8000000 in
set_option maxRecDepth 100000 in
theorem laws_FnOps.calls (k : Nat) (A0 : Option Addr) (c0 : Nat) (l0 : List Int) (A1 : Option Addr) (c1 : Nat) (l1 : List Int) (r : Bool) (w : World) (hr0 : Kd.C (Kd.int .u8) w A0 l0.length l0) (hc0 : l0.length ≤ c0) (hr1 : Kd.C (Kd.int .u8) w A1 l1.length l1) (hc1 : l1.length ≤ c1) (hT0 : r = true) (h : laws_FnOps.f k l0 l1 = some r) :
  Calls Try.prog 14 #[.slice A0 l0.length c0, .slice A1 l1.length c1] w fun e w' => e = .returned (.bool r) ∧ Below w.heap.size w w' := by
 have hT := am hT0
 clear hT0
 have hu60 := Try.underlying60
 have hu84 := Try.underlying84
 have HR0 := am hr0
 have HC0 := am hc0
 clear hr0 hc0
 have HR1 := am hr1
 have HC1 := am hc1
 clear hr1 hc1
 have HB := am (Below.refl w.heap.size w)
 have H : ((laws_b10Long.f l0 l1).bind fun t299 => (if t299 = true then (some true) else ((spec_DrawApplyOps.f k l0).bind fun bt300 => ((impl_ApplyOps.f bt300.1 bt300.2.1 bt300.2.2).bind fun bt305 => ((spec_ApplyOps.f k bt300.1 bt300.2.1 bt300.2.2).bind fun bt307 => (if bt305.1.toList = bt307.1.toList then (if (bt305.2 != bt307.2) = true then (laws_FnOps.j0 k l1 bt300.1 bt300.2.1 bt300.2.2 bt305.1 bt305.2 true) else (if (bt305.1.size : Int) > 64 then (laws_FnOps.j0 k l1 bt300.1 bt300.2.1 bt300.2.2 bt305.1 bt305.2 true) else (if bt305.2 = true then (laws_FnOps.j0 k l1 bt300.1 bt300.2.1 bt300.2.2 bt305.1 bt305.2 false) else (laws_FnOps.j0 k l1 bt300.1 bt300.2.1 bt300.2.2 bt305.1 bt305.2 (bt305.1.toList != ([] : List UInt8)))))) else (laws_FnOps.j0 k l1 bt300.1 bt300.2.1 bt300.2.2 bt305.1 bt305.2 true))))))) = some r := h
 clear h
 replace H := Option.bind_eq_some_iff.mp H
 obtain ⟨t299, A30, H⟩ := H
 replace H : (if t299 = true then (some true) else ((spec_DrawApplyOps.f k l0).bind fun bt300 => ((impl_ApplyOps.f bt300.1 bt300.2.1 bt300.2.2).bind fun bt305 => ((spec_ApplyOps.f k bt300.1 bt300.2.1 bt300.2.2).bind fun bt307 => (if bt305.1.toList = bt307.1.toList then (if (bt305.2 != bt307.2) = true then (laws_FnOps.j0 k l1 bt300.1 bt300.2.1 bt300.2.2 bt305.1 bt305.2 true) else (if (bt305.1.size : Int) > 64 then (laws_FnOps.j0 k l1 bt300.1 bt300.2.1 bt300.2.2 bt305.1 bt305.2 true) else (if bt305.2 = true then (laws_FnOps.j0 k l1 bt300.1 bt300.2.1 bt300.2.2 bt305.1 bt305.2 false) else (laws_FnOps.j0 k l1 bt300.1 bt300.2.1 bt300.2.2 bt305.1 bt305.2 (bt305.1.toList != ([] : List UInt8)))))) else (laws_FnOps.j0 k l1 bt300.1 bt300.2.1 bt300.2.2 bt305.1 bt305.2 true)))))) = some r := H
 have A3 := am A30
 clear A30
 by_cases c4 : t299 = true
 ·subst c4
  have H1 : (some true) = some r := by rw [if_pos rfl] at H; exact H
  clear H
  have H := H1
  clear H1
  obtain rfl := Option.some.inj H
  go_enter Try.func14, Try.ntmps14
  go_wp2_with (first | ((with_reducible refine gate_callee (f := 33) rfl ?_); refine goesL_ (some 25) rfl rfl Try.func33 (by kernel_rfl) rfl #[.slice A0 l0.length c0, .slice A1 l1.length c1] rfl (by (try simp only [mta, mco, mni]); first | done | rfl | (simp only [lnd, lnt]; rfl)) ?_; (with_reducible refine (laws_b10Long.calls _ _ l0 _ _ l1 true _ ?side1 ?side2 ?side3 ?side4 A3.out).mono ?_); (case side1 => repeat (first | exact HR0.out | (with_reducible first | apply kca | apply kcn | apply kcd))); (case side2 => exact HC0.out); (case side3 => repeat (first | exact HR1.out | (with_reducible first | apply kca | apply kcn | apply kcd))); (case side4 => exact HC1.out); rintro e w' ⟨rfl, ⟨nd, rfl⟩⟩; refine ⟨_, rfl, ?_⟩))
  go_ret
  exact ⟨by first | rfl | (simp [errW_none, errW_some] <;> rfl) | (simp [*, errW_none, errW_some] <;> rfl), by repeat (first | (with_reducible first | exact HB.out | apply bal | apply pdn | apply bd1) | exact HB.out)⟩
 ·replace c4 := Bool.eq_false_iff.mpr c4
  subst c4
  have H1 : ((spec_DrawApplyOps.f k l0).bind fun bt300 => ((impl_ApplyOps.f bt300.1 bt300.2.1 bt300.2.2).bind fun bt305 => ((spec_ApplyOps.f k bt300.1 bt300.2.1 bt300.2.2).bind fun bt307 => (if bt305.1.toList = bt307.1.toList then (if (bt305.2 != bt307.2) = true then (laws_FnOps.j0 k l1 bt300.1 bt300.2.1 bt300.2.2 bt305.1 bt305.2 true) else (if (bt305.1.size : Int) > 64 then (laws_FnOps.j0 k l1 bt300.1 bt300.2.1 bt300.2.2 bt305.1 bt305.2 true) else (if bt305.2 = true then (laws_FnOps.j0 k l1 bt300.1 bt300.2.1 bt300.2.2 bt305.1 bt305.2 false) else (laws_FnOps.j0 k l1 bt300.1 bt300.2.1 bt300.2.2 bt305.1 bt305.2 (bt305.1.toList != ([] : List UInt8)))))) else (laws_FnOps.j0 k l1 bt300.1 bt300.2.1 bt300.2.2 bt305.1 bt305.2 true))))) = some r := by rw [if_neg (show ¬ (false = true) by decide)] at H; exact H
  clear H
  have H := H1
  clear H1
  replace H := Option.bind_eq_some_iff.mp H
  obtain ⟨⟨t300, t301, t302⟩, A50, H⟩ := H
  replace H : ((impl_ApplyOps.f t300 t301 t302).bind fun bt305 => ((spec_ApplyOps.f k t300 t301 t302).bind fun bt307 => (if bt305.1.toList = bt307.1.toList then (if (bt305.2 != bt307.2) = true then (laws_FnOps.j0 k l1 t300 t301 t302 bt305.1 bt305.2 true) else (if (bt305.1.size : Int) > 64 then (laws_FnOps.j0 k l1 t300 t301 t302 bt305.1 bt305.2 true) else (if bt305.2 = true then (laws_FnOps.j0 k l1 t300 t301 t302 bt305.1 bt305.2 false) else (laws_FnOps.j0 k l1 t300 t301 t302 bt305.1 bt305.2 (bt305.1.toList != ([] : List UInt8)))))) else (laws_FnOps.j0 k l1 t300 t301 t302 bt305.1 bt305.2 true)))) = some r := H
  have A5 := am A50
  clear A50
  replace H := Option.bind_eq_some_iff.mp H
  obtain ⟨⟨t305, t306⟩, A60, H⟩ := H
  replace H : ((spec_ApplyOps.f k t300 t301 t302).bind fun bt307 => (if t305.toList = bt307.1.toList then (if (t306 != bt307.2) = true then (laws_FnOps.j0 k l1 t300 t301 t302 t305 t306 true) else (if (t305.size : Int) > 64 then (laws_FnOps.j0 k l1 t300 t301 t302 t305 t306 true) else (if t306 = true then (laws_FnOps.j0 k l1 t300 t301 t302 t305 t306 false) else (laws_FnOps.j0 k l1 t300 t301 t302 t305 t306 (t305.toList != ([] : List UInt8)))))) else (laws_FnOps.j0 k l1 t300 t301 t302 t305 t306 true))) = some r := H
  have A6 := am A60
  clear A60
  replace H := Option.bind_eq_some_iff.mp H
  obtain ⟨⟨t307, t308⟩, A70, H⟩ := H
  replace H : (if t305.toList = t307.toList then (if (t306 != t308) = true then (laws_FnOps.j0 k l1 t300 t301 t302 t305 t306 true) else (if (t305.size : Int) > 64 then (laws_FnOps.j0 k l1 t300 t301 t302 t305 t306 true) else (if t306 = true then (laws_FnOps.j0 k l1 t300 t301 t302 t305 t306 false) else (laws_FnOps.j0 k l1 t300 t301 t302 t305 t306 (t305.toList != ([] : List UInt8)))))) else (laws_FnOps.j0 k l1 t300 t301 t302 t305 t306 true)) = some r := H
  have A7 := am A70
  clear A70
  have HC8 := am H
  clear H
  go_enter Try.func14, Try.ntmps14
  go_upto_region 6 with (first | ((with_reducible refine gate_callee (f := 33) rfl ?_); refine goesL_ (some 25) rfl rfl Try.func33 (by kernel_rfl) rfl #[.slice A0 l0.length c0, .slice A1 l1.length c1] rfl (by (try simp only [mta, mco, mni]); first | done | rfl | (simp only [lnd, lnt]; rfl)) ?_; (with_reducible refine (laws_b10Long.calls _ _ l0 _ _ l1 false _ ?side1 ?side2 ?side3 ?side4 A3.out).mono ?_); (case side1 => repeat (first | exact HR0.out | (with_reducible first | apply kca | apply kcn | apply kcd))); (case side2 => exact HC0.out); (case side3 => repeat (first | exact HR1.out | (with_reducible first | apply kca | apply kcn | apply kcd))); (case side4 => exact HC1.out); rintro e w' ⟨rfl, ⟨nd, rfl⟩⟩; refine ⟨_, rfl, ?_⟩) | ((with_reducible refine gate_callee (f := 51) rfl ?_); refine goesL_ (some 28) rfl rfl Try.func51 (by kernel_rfl) rfl #[.slice A0 l0.length c0] rfl (by (try simp only [mta, mco, mni]); first | done | rfl | (simp only [lnd, lnt]; rfl)) ?_; (with_reducible refine (spec_DrawApplyOps.calls k _ _ l0 t300 t301 t302 _ ?side1 ?side2 A5.out).mono ?_); (case side1 => repeat (first | exact HR0.out | (with_reducible first | apply kca | apply kcn | apply kcd))); (case side2 => exact HC0.out); rintro e w9 ⟨v303, rfl, ho0, hb⟩; refine ⟨_, rfl, ?_⟩; have n0_ := am (Kd.R_lower ho0 (below_size (by repeat (first | (with_reducible first | exact HB.out | apply bal | apply pdn | apply bd1) | exact HB.out)))); have n1_ := am (below_step (by repeat (first | (with_reducible first | exact HB.out | apply bal | apply pdn | apply bd1) | exact HB.out)) hb); clear HB; have HO304 := n0_; have HB := n1_; clear n0_ n1_; (try clear hb); (try clear hb2); (try clear hk); (try clear hi); (try clear ho0); obtain ⟨Ao10, co10, eo10⟩ := Kd.R_slice HO304.out; subst eo10) | ((with_reducible refine gate_callee (f := 48) rfl ?_); refine goesL_ (some 36) rfl rfl Try.func48 (by kernel_rfl) rfl #[.string t300, .bool t301, .slice Ao10 t302.length co10] rfl (by (try simp only [mta, mco, mni]); first | done | rfl | (simp only [lnd, lnt]; rfl)) ?_; (with_reducible refine (impl_ApplyOps.calls t300 t301 _ _ t302 t305 t306 _ ?side1 ?side2 A6.out).mono ?_); (case side1 => repeat (first | exact (Kd.R_reads' HO304.out).2.2 | (with_reducible first | apply kca | apply kcn | apply kcd))); (case side2 => exact (Kd.R_reads' HO304.out).2.1); rintro e w11 ⟨rfl, hb⟩; refine ⟨_, rfl, ?_⟩; have n0_ := am (krb (by (with_reducible repeat (first | apply kra | apply krn | apply krd)); exact HO304.out) hb); have n1_ := am (below_step (by repeat (first | (with_reducible first | exact HB.out | apply bal | apply pdn | apply bd1) | exact HB.out)) hb); clear HO304; clear HB; have HO304 := n0_; have HB := n1_; clear n0_ n1_; (try clear hb); (try clear hb2); (try clear hk); (try clear hi)) | ((with_reducible refine gate_callee (f := 46) rfl ?_); refine goesL_ (some 43) rfl rfl Try.func46 (by kernel_rfl) rfl #[.string t300, .bool t301, .slice Ao10 t302.length co10] rfl (by (try simp only [mta, mco, mni]); first | done | rfl | (simp only [lnd, lnt]; rfl)) ?_; (with_reducible refine (spec_ApplyOps.calls k t300 t301 _ _ t302 t307 t308 _ ?side1 ?side2 A7.out).mono ?_); (case side1 => repeat (first | exact (Kd.R_reads' HO304.out).2.2 | (with_reducible first | apply kca | apply kcn | apply kcd))); (case side2 => exact (Kd.R_reads' HO304.out).2.1); rintro e w12 ⟨rfl, hb⟩; refine ⟨_, rfl, ?_⟩; have n0_ := am (krb (by (with_reducible repeat (first | apply kra | apply krn | apply krd)); exact HO304.out) hb); have n1_ := am (below_step (by repeat (first | (with_reducible first | exact HB.out | apply bal | apply pdn | apply bd1) | exact HB.out)) hb); clear HO304; clear HB; have HO304 := n0_; have HB := n1_; clear n0_ n1_; (try clear hb); (try clear hb2); (try clear hk); (try clear hi)))
  (try simp only [Act.put, sit, scz, scs])
  go_cut [66] (fun v66 wc => ∃ (kq : Nat) (x66_7 : Bool), v66 = .bool x66_7 ∧ Aside0 (laws_FnOps.j0 kq l1 t300 t301 t302 t305 t306 x66_7 = some r) ∧ Aside0 (kq ≤ k) ∧ Aside0 (Kd.R k60 60 wc w.heap.size (fun _ => True) (.slice Ao10 t302.length co10) t302) ∧ Aside0 (Below w.heap.size w wc))
  case first =>
   have H := HC8.out
   clear HC8
   by_cases c13 : t305.toList = t307.toList
   ·rw [if_pos c13] at H
    have c13b0 : (t305.toList == t307.toList) = true := beq_iff_eq.mpr c13
    have c13b1 : (t305.toList != t307.toList) = false := bne_eq_false_iff_eq.mpr c13
    clear c13
    (first | rw [c13b0] | (simp only [i64_w, i32_w]; rw [c13b0]) | skip)
    by_cases c14 : (t306 != t308) = true
    ·rw [if_pos c14] at H
     have c14b0 : (t306 != t308) = true := c14
     (try (have c14b1 : decide (t306 = t308) = false := by simpa using c14))
     (try (have c14b2 : (t306 == t308) = false := by simpa using c14))
     (try (have c14b3 : ¬ (t306 = t308) := by simpa using c14))
     clear c14
     have H' := am H
     clear H
     go_wp2
     go_meet
     case rel => exact ⟨_, (true), (by first | rfl | (simp; done) | (simp [*]; done)), H', ⟨by first | omega | exact Nat.le_refl _⟩, ⟨by (with_reducible repeat (first | apply kra | apply krn | apply krd)); exact HO304.out⟩, ⟨by repeat (first | (with_reducible first | exact HB.out | apply bal | apply pdn | apply bd1) | exact HB.out)⟩⟩
    ·rw [if_neg c14] at H
     have c14b0 : (t306 != t308) = false := by simpa using c14
     (try (have c14b1 : decide (t306 = t308) = true := by simpa using c14))
     (try (have c14b2 : (t306 == t308) = true := by simpa using c14))
     clear c14
     by_cases c15 : (t305.size : Int) > 64
     ·rw [if_pos c15] at H
      have c15b0 : decide (64 < (t305.size : Int)) = true := decide_eq_true c15
      have c15b1 : decide (64 < t305.size) = true := decide_eq_true (by omega)
      clear c15
      have H' := am H
      clear H
      go_wp2
      go_meet
      case rel => exact ⟨_, (true), (by first | rfl | (simp; done) | (simp [*]; done)), H', ⟨by first | omega | exact Nat.le_refl _⟩, ⟨by (with_reducible repeat (first | apply kra | apply krn | apply krd)); exact HO304.out⟩, ⟨by repeat (first | (with_reducible first | exact HB.out | apply bal | apply pdn | apply bd1) | exact HB.out)⟩⟩
     ·rw [if_neg c15] at H
      have c15b0 : decide (64 < (t305.size : Int)) = false := decide_eq_false c15
      have c15b1 : decide (64 < t305.size) = false := decide_eq_false (by omega)
      clear c15
      by_cases c16 : t306 = true
      ·subst c16
       have H1 : (laws_FnOps.j0 k l1 t300 t301 t302 t305 true false) = some r := by rw [if_pos rfl] at H; exact H
       clear H
       have H := H1
       clear H1
       have H' := am H
       clear H
       go_wp2
       go_meet
       case rel => exact ⟨_, (false), (by first | rfl | (simp; done) | (simp [*]; done)), H', ⟨by first | omega | exact Nat.le_refl _⟩, ⟨by (with_reducible repeat (first | apply kra | apply krn | apply krd)); exact HO304.out⟩, ⟨by repeat (first | (with_reducible first | exact HB.out | apply bal | apply pdn | apply bd1) | exact HB.out)⟩⟩
      ·replace c16 := Bool.eq_false_iff.mpr c16
       subst c16
       have H1 : (laws_FnOps.j0 k l1 t300 t301 t302 t305 false (t305.toList != ([] : List UInt8))) = some r := by rw [if_neg (show ¬ (false = true) by decide)] at H; exact H
       clear H
       have H := H1
       clear H1
       have H' := am H
       clear H
       go_wp2
       go_meet
       case rel => exact ⟨_, ((t305.toList != ([] : List UInt8))), (by first | rfl | (simp; done) | (simp [*]; done) | (simp; generalize ByteArray.toList _ = q_; cases q_ <;> rfl)), H', ⟨by first | omega | exact Nat.le_refl _⟩, ⟨by (with_reducible repeat (first | apply kra | apply krn | apply krd)); exact HO304.out⟩, ⟨by repeat (first | (with_reducible first | exact HB.out | apply bal | apply pdn | apply bd1) | exact HB.out)⟩⟩
   ·rw [if_neg c13] at H
    have c13b0 : (t305.toList == t307.toList) = false := beq_eq_false_iff_ne.mpr c13
    have c13b1 : (t305.toList != t307.toList) = true := bne_iff_ne.mpr c13
    (first | rw [c13b0] | (simp only [i64_w, i32_w]; rw [c13b0]) | skip)
    have H' := am H
    clear H
    go_wp2
    go_meet
    case rel => exact ⟨_, (true), (by first | rfl | (simp; done) | (simp [*]; done)), H', ⟨by first | omega | exact Nat.le_refl _⟩, ⟨by (with_reducible repeat (first | apply kra | apply krn | apply krd)); exact HO304.out⟩, ⟨by repeat (first | (with_reducible first | exact HB.out | apply bal | apply pdn | apply bd1) | exact HB.out)⟩⟩
  case rest =>
   clear HC8
   obtain ⟨kq, x66_7, rfl, HA, HJ7, HO_7, HB⟩ := hcut
   cases kq with
   | zero => exact absurd HA.out (by simp [laws_FnOps.j0])
   | succ kj7 =>
    have H := HA.out
    clear HA
    simp only [laws_FnOps.j0] at H
    by_cases c17 : x66_7 = true
    ·subst c17
     have H1 : (some false) = some r := by rw [if_pos rfl] at H; exact H
     clear H
     have H := H1
     clear H1
     exact absurd ((Option.some.inj H).trans hT.out) (by decide)
    ·replace c17 := Bool.eq_false_iff.mpr c17
     subst c17
     have H1 : ((spec_DrawPutOp.f kj7 l1).bind fun bt309 => ((impl_PutOp.f kj7 bt309.1 bt309.2.1 bt309.2.2).bind fun t313 => (if t313.toList = ([] : List UInt8) then (laws_FnOps.j1 kj7 l1 t300 t301 t302 t305 t306) else (if t313.size + 2 ≤ 9223372036854775807 then ((impl_GetOp.f kj7 (t313 ++ (⟨#[122, 122]⟩ : ByteArray))).bind fun bt314 => (if bt314.2.2.2.2 = true then (if (!(bt314.1 == bt309.1) || (!(bt314.2.1 == bt309.2.1) || (!(bt314.2.2.1.toList == bt309.2.2.toList)))) = true then (some false) else (if bt314.2.2.2.1 = (t313.size : Int) then (laws_FnOps.j1 kj7 l1 t300 t301 t302 t305 t306) else (some false))) else (some false))) else (none))))) = some r := by rw [if_neg (show ¬ (false = true) by decide)] at H; exact H
     clear H
     have H := H1
     clear H1
     replace H := Option.bind_eq_some_iff.mp H
     obtain ⟨⟨t309, t310, t311⟩, A180, H⟩ := H
     replace H : ((impl_PutOp.f kj7 t309 t310 t311).bind fun t313 => (if t313.toList = ([] : List UInt8) then (laws_FnOps.j1 kj7 l1 t300 t301 t302 t305 t306) else (if t313.size + 2 ≤ 9223372036854775807 then ((impl_GetOp.f kj7 (t313 ++ (⟨#[122, 122]⟩ : ByteArray))).bind fun bt314 => (if bt314.2.2.2.2 = true then (if (!(bt314.1 == t309) || (!(bt314.2.1 == t310) || (!(bt314.2.2.1.toList == t311.toList)))) = true then (some false) else (if bt314.2.2.2.1 = (t313.size : Int) then (laws_FnOps.j1 kj7 l1 t300 t301 t302 t305 t306) else (some false))) else (some false))) else (none)))) = some r := H
     have A18 := am A180
     clear A180
     replace H := Option.bind_eq_some_iff.mp H
     obtain ⟨t313, A190, H⟩ := H
     replace H : (if t313.toList = ([] : List UInt8) then (laws_FnOps.j1 kj7 l1 t300 t301 t302 t305 t306) else (if t313.size + 2 ≤ 9223372036854775807 then ((impl_GetOp.f kj7 (t313 ++ (⟨#[122, 122]⟩ : ByteArray))).bind fun bt314 => (if bt314.2.2.2.2 = true then (if (!(bt314.1 == t309) || (!(bt314.2.1 == t310) || (!(bt314.2.2.1.toList == t311.toList)))) = true then (some false) else (if bt314.2.2.2.1 = (t313.size : Int) then (laws_FnOps.j1 kj7 l1 t300 t301 t302 t305 t306) else (some false))) else (some false))) else (none))) = some r := H
     have A19 := am A190
     clear A190
     have HC20 := am H
     clear H
     go_upto_if 72 with (first | ((with_reducible refine gate_callee (f := 52) rfl ?_); refine goesL_ (some 68) rfl rfl Try.func52 (by kernel_rfl) rfl #[.slice A1 l1.length c1] rfl (by (try simp only [mta, mco, mni]); first | done | rfl | (simp only [lnd, lnt]; rfl)) ?_; (with_reducible refine (spec_DrawPutOp.calls kj7 _ _ l1 t309 t310 t311 _ ?side1 ?side2 A18.out).mono ?_); (case side1 => repeat (first | exact (Kd.C_below HR1.out HB.out) | (with_reducible first | apply kca | apply kcn | apply kcd))); (case side2 => exact HC1.out); rintro e w21 ⟨rfl, hb⟩; refine ⟨_, rfl, ?_⟩; have n0_ := am (krb (by (with_reducible repeat (first | apply kra | apply krn | apply krd)); exact HO_7.out) hb); have n1_ := am (below_step (by repeat (first | (with_reducible first | exact HB.out | apply bal | apply pdn | apply bd1) | exact HB.out)) hb); clear HO_7; clear HB; have HO_7 := n0_; have HB := n1_; clear n0_ n1_; (try clear hb); (try clear hb2); (try clear hk); (try clear hi)) | ((with_reducible refine gate_dst (N := 12) rfl ?_); (try (refine gate_guard (by rfl) ?_; dsimp only)); refine box_event ?hg (N := 12) ?hd (cs := #[.int .i64 0, .int .i64 0, .string (⟨#[]⟩ : ByteArray)]) (t := 60) ?hr ?_; (case hd => rfl); (case hg => rfl); (case hr => first | (go_simp; done) | (go_simp; rfl)); intro gb312 hg w22 hbox hb; have n0_ := am (krb (Kd.R_elderB (by (with_reducible repeat (first | apply kra | apply krn | apply krd)); exact HO_7.out) gb312 (Nat.le_of_eq hg.symm)) hb); have n1_ := am (below_step (by repeat (first | (with_reducible first | exact HB.out | apply bal | apply pdn | apply bd1) | exact HB.out)) hb); have n2_ := am (hbox); have n3_ := am ((by rw [hg]; exact (below_size (by repeat (first | (with_reducible first | exact HB.out | apply bal | apply pdn | apply bd1) | exact HB.out))) : w.heap.size ≤ gb312)); have n4_ := am ((by rw [hg]; exact (below_size (by repeat (first | (with_reducible first | exact HB.out | apply bal | apply pdn | apply bd1) | exact HB.out))) : w.heap.size ≤ gb312)); clear HO_7; clear HB; have HO_7 := n0_; have HB := n1_; have BK312 := n2_; have GW312 := n3_; have GE312 := n4_; clear n0_ n1_ n2_ n3_ n4_; clear hb hbox hg; have hcz23_0 : w22.cell? ⟨gb312, 0, none⟩ = some (.int .i64 0) := (kce BK312.out 0).trans rfl; have hcz23_1 : w22.cell? ⟨gb312, 1, none⟩ = some (.int .i64 0) := (kce BK312.out 1).trans rfl; have hcz23_2 : w22.cell? ⟨gb312, 2, none⟩ = some (.string (⟨#[]⟩ : ByteArray)) := (kce BK312.out 2).trans rfl; have hfz23_0 := kfr BK312.out 0; have hfz23_1 := kfr BK312.out 1; have hfz23_2 := kfr BK312.out 2) | ((with_reducible refine gate_callee (f := 39) rfl ?_); refine goesL_ (some 70) rfl rfl Try.func39 (by kernel_rfl) rfl #[.agg #[.int .i64 t309, .int .i64 t310, .string t311]] rfl (by (try simp only [mta, mco, mni]); first | done | rfl | (simp only [lnd, lnt]; rfl)) ?_; (with_reducible refine (impl_PutOp.calls kj7 t309 t310 t311 t313 _ A19.out).mono ?_); rintro e w24 ⟨rfl, hb⟩; refine ⟨_, rfl, ?_⟩; have n0_ := am (krb (by (with_reducible repeat (first | apply kra | apply krn | apply krd)); exact (Kd.R_mono (kfa (p := ⟨gb312, 2, none⟩) (kfa (p := ⟨gb312, 1, none⟩) (kfa (p := ⟨gb312, 0, none⟩) (Kd.R_mono HO_7.out (fun k_ hk => (⟨hk, hk.2⟩ : _ ∧ k_ ≠ gb312))) (fun _ hk => hk.2) (.int .i64 t309)) (fun _ hk => hk.2) (.int .i64 t310)) (fun _ hk => hk.2) (.string t311)) (fun _ h_ => h_.1))) hb); have n1_ := am (kbb (g := gb312) (o := .cells #[.int .i64 t309, .int .i64 t310, .string t311] 60 (0, 0)) (by (with_reducible repeat (first | apply kdn | apply kdr | apply kal)); refine blk_put (cs := #[.int .i64 t309, .int .i64 t310, .string (⟨#[]⟩ : ByteArray)]) ?_ 2 _ rfl; (with_reducible repeat (first | apply kdn | apply kdr | apply kal)); refine blk_put (cs := #[.int .i64 t309, .int .i64 0, .string (⟨#[]⟩ : ByteArray)]) ?_ 1 _ rfl; (with_reducible repeat (first | apply kdn | apply kdr | apply kal)); refine blk_put (cs := #[.int .i64 0, .int .i64 0, .string (⟨#[]⟩ : ByteArray)]) ?_ 0 _ rfl; (with_reducible repeat (first | apply kdn | apply kdr | apply kal)); exact BK312.out) hb); have n2_ := am (below_step (by repeat (first | (with_reducible first | exact HB.out | apply bal | apply pdn | apply bd1 | refine bst ?_ GE312.out) | exact HB.out)) hb); clear HO_7; clear BK312; clear HB; have HO_7 := n0_; have BK312 := n1_; have HB := n2_; clear n0_ n1_ n2_; (try clear hb); (try clear hb2); (try clear hk); (try clear hi)))
     (try simp only [Act.put, sit, scz, scs])
     go_cut [] (fun wc => ∃ (kq : Nat), Aside0 (laws_FnOps.j1 kq l1 t300 t301 t302 t305 t306 = some r) ∧ Aside0 (kq ≤ kj7) ∧ Aside0 (Kd.R k60 60 wc w.heap.size (fun k_ => k_ ≠ gb312) (.slice Ao10 t302.length co10) t302) ∧ Aside0 (wc.heap[gb312]? = some (.cells #[.int .i64 t309, .int .i64 t310, .string t311] 60 (0, 0))) ∧ Aside0 (Below w.heap.size w wc))
     case first =>
      have H := HC20.out
      clear HC20
      by_cases c25 : t313.toList = ([] : List UInt8)
      ·rw [if_pos c25] at H
       have c25b0 : (t313.toList == ([] : List UInt8)) = true := beq_iff_eq.mpr c25
       have c25b3 : (t313).toList.isEmpty = true := by rw [c25]; rfl
       have c25b4 : (!(t313).toList.isEmpty) = false := by rw [c25b3]; rfl
       have c25b1 : (t313.toList != ([] : List UInt8)) = false := bne_eq_false_iff_eq.mpr c25
       clear c25
       (first | rw [c25b0] | (simp only [i64_w, i32_w]; rw [c25b0]) | skip)
       have H' := am H
       clear H
       go_wp2
       all_goals try (exfalso; first | (have h_ : (!(t313).toList.isEmpty) = true := (by assumption); rw [c25b3] at h_; exact absurd h_ (by decide)) | (have h_ : (!(t313).toList.isEmpty) = false := (by assumption); rw [c25b3] at h_; exact absurd h_ (by decide)))
       go_meet
       case rel => exact ⟨_, H', ⟨by have := HJ7.out; first | omega | exact Nat.le_refl _⟩, ⟨by (with_reducible repeat (first | apply kra | apply krn | apply krd)); exact Kd.R_mono HO_7.out (fun _ hk => hk.2)⟩, ⟨by (with_reducible repeat (first | apply kdn | apply kdr | apply kal)); exact BK312.out⟩, ⟨by repeat (first | (with_reducible first | exact HB.out | apply bal | apply pdn | apply bd1 | refine bst ?_ GE312.out) | exact HB.out)⟩⟩
      ·rw [if_neg c25] at H
       have c25b0 : (t313.toList == ([] : List UInt8)) = false := beq_eq_false_iff_ne.mpr c25
       have c25b3 : (t313).toList.isEmpty = false := by cases h_ : (t313).toList with | nil => exact absurd h_ c25 | cons _ _ => rfl
       have c25b4 : (!(t313).toList.isEmpty) = true := by rw [c25b3]; rfl
       have c25b1 : (t313.toList != ([] : List UInt8)) = true := bne_iff_ne.mpr c25
       (first | rw [c25b0] | (simp only [i64_w, i32_w]; rw [c25b0]) | skip)
       by_cases c26 : t313.size + 2 ≤ 9223372036854775807
       ·rw [if_pos c26] at H
        have c26b0 := eq_true c26
        have c26b1 : decide (t313.size + 2 ≤ 9223372036854775807) = true := decide_eq_true c26
        try have c26b2 : (9223372036854775807 < t313.size + 2) = False := eq_false (Nat.not_lt.2 c26)
        replace H := Option.bind_eq_some_iff.mp H
        obtain ⟨⟨t314, t315, t316, t317, t318⟩, A270, H⟩ := H
        replace H : (if t318 = true then (if (!(t314 == t309) || (!(t315 == t310) || (!(t316.toList == t311.toList)))) = true then (some false) else (if t317 = (t313.size : Int) then (laws_FnOps.j1 kj7 l1 t300 t301 t302 t305 t306) else (some false))) else (some false)) = some r := H
        have A27 := am A270
        clear A270
        by_cases c28 : t318 = true
        ·subst c28
         have H1 : (if (!(t314 == t309) || (!(t315 == t310) || (!(t316.toList == t311.toList)))) = true then (some false) else (if t317 = (t313.size : Int) then (laws_FnOps.j1 kj7 l1 t300 t301 t302 t305 t306) else (some false))) = some r := by rw [if_pos rfl] at H; exact H
         clear H
         have H := H1
         clear H1
         by_cases c29 : (!(t314 == t309) || (!(t315 == t310) || (!(t316.toList == t311.toList)))) = true
         ·rw [if_pos c29] at H
          have c29b0 : (!(t314 == t309) || (!(t315 == t310) || (!(t316.toList == t311.toList)))) = true := c29
          clear c29
          exact absurd ((Option.some.inj H).trans hT.out) (by decide)
         ·rw [if_neg c29] at H
          have c29b0 : (!(t314 == t309) || (!(t315 == t310) || (!(t316.toList == t311.toList)))) = false := by simpa using c29
          clear c29
          by_cases c30 : t317 = (t313.size : Int)
          ·rw [if_pos c30] at H
           have c30b0 : (t317 == (t313.size : Int)) = true := beq_iff_eq.mpr c30
           have c30b1 : (t317 != (t313.size : Int)) = false := bne_eq_false_iff_eq.mpr c30
           clear c30
           have H' := am H
           clear H
           go_wp2_with (first | ((with_reducible refine gate_callee (f := 41) rfl ?_); refine goesL_ (some 76) rfl rfl Try.func41 (by kernel_rfl) rfl #[.string (t313 ++ (⟨#[122, 122]⟩ : ByteArray))] rfl (by (try simp only [mta, mco, mni]); first | done | rfl | (simp only [lnd, lnt]; rfl)) ?_; (with_reducible refine (impl_GetOp.calls kj7 (t313 ++ (⟨#[122, 122]⟩ : ByteArray)) t314 t315 t316 t317 true _ A27.out).mono ?_); rintro e w31 ⟨rfl, hb⟩; refine ⟨_, rfl, ?_⟩; have n0_ := am (krb (by (with_reducible repeat (first | apply kra | apply krn | apply krd)); exact HO_7.out) hb); have n1_ := am (kbb (g := gb312) (o := .cells #[.int .i64 t309, .int .i64 t310, .string t311] 60 (0, 0)) (by (with_reducible repeat (first | apply kdn | apply kdr | apply kal)); exact BK312.out) hb); have n2_ := am (below_step (by repeat (first | (with_reducible first | exact HB.out | apply bal | apply pdn | apply bd1 | refine bst ?_ GE312.out) | exact HB.out)) hb); clear HO_7; clear BK312; clear HB; have HO_7 := n0_; have BK312 := n1_; have HB := n2_; clear n0_ n1_ n2_; (try clear hb); (try clear hb2); (try clear hk); (try clear hi)) | ((with_reducible refine gate_dst (N := 14) rfl ?_); (try (refine gate_guard (by rfl) ?_; dsimp only)); refine box_event ?hg (N := 14) ?hd (cs := #[.int .i64 0, .int .i64 0, .string (⟨#[]⟩ : ByteArray)]) (t := 60) ?hr ?_; (case hd => rfl); (case hg => rfl); (case hr => first | (go_simp; done) | (go_simp; rfl)); intro gb319 hg w32 hbox hb; have n0_ := am (krb (Kd.R_elderB (by (with_reducible repeat (first | apply kra | apply krn | apply krd)); exact HO_7.out) gb319 (Nat.le_of_eq hg.symm)) hb); have n1_ := am (kbb (g := gb312) (o := .cells #[.int .i64 t309, .int .i64 t310, .string t311] 60 (0, 0)) (by (with_reducible repeat (first | apply kdn | apply kdr | apply kal)); exact BK312.out) hb); have n2_ := am (below_step (by repeat (first | (with_reducible first | exact HB.out | apply bal | apply pdn | apply bd1 | refine bst ?_ GE312.out) | exact HB.out)) hb); have n3_ := am (hbox); have n4_ := am ((by rw [hg]; exact (below_size (by repeat (first | (with_reducible first | exact HB.out | apply bal | apply pdn | apply bd1 | refine bst ?_ GE312.out) | exact HB.out))) : w.heap.size ≤ gb319)); have n5_ := am ((by rw [hg]; exact (below_size (by repeat (first | (with_reducible first | exact HB.out | apply bal | apply pdn | apply bd1 | refine bst ?_ GE312.out) | exact HB.out))) : w.heap.size ≤ gb319)); have n6_ := am ((by rw [hg]; exact Nat.ne_of_lt (blk_lt (g := gb312) (o := .cells #[.int .i64 t309, .int .i64 t310, .string t311] 60 (0, 0)) (by (with_reducible repeat (first | apply kdn | apply kdr | apply kal)); exact BK312.out)) : gb312 ≠ gb319)); have n7_ := am ((by rw [hg]; exact Nat.ne_of_gt (blk_lt (g := gb312) (o := .cells #[.int .i64 t309, .int .i64 t310, .string t311] 60 (0, 0)) (by (with_reducible repeat (first | apply kdn | apply kdr | apply kal)); exact BK312.out)) : gb319 ≠ gb312)); clear HO_7; clear BK312; clear HB; have HO_7 := n0_; have BK312 := n1_; have HB := n2_; have BK319 := n3_; have GW319 := n4_; have GE319 := n5_; have NB312_319 := n6_; have NB319_312 := n7_; clear n0_ n1_ n2_ n3_ n4_ n5_ n6_ n7_; clear hb hbox hg; have hnb33 := NB319_312.out; have hnc33 := NB312_319.out; have hcz34_0 : w32.cell? ⟨gb319, 0, none⟩ = some (.int .i64 0) := (kce BK319.out 0).trans rfl; have hcz34_1 : w32.cell? ⟨gb319, 1, none⟩ = some (.int .i64 0) := (kce BK319.out 1).trans rfl; have hcz34_2 : w32.cell? ⟨gb319, 2, none⟩ = some (.string (⟨#[]⟩ : ByteArray)) := (kce BK319.out 2).trans rfl; have hfz34_0 := kfr BK319.out 0; have hfz34_1 := kfr BK319.out 1; have hfz34_2 := kfr BK319.out 2; have hcz35_0 : w32.cell? ⟨gb312, 0, none⟩ = some (.int .i64 t309) := (kce BK312.out 0).trans rfl; have hcz35_1 : w32.cell? ⟨gb312, 1, none⟩ = some (.int .i64 t310) := (kce BK312.out 1).trans rfl; have hcz35_2 : w32.cell? ⟨gb312, 2, none⟩ = some (.string t311) := (kce BK312.out 2).trans rfl; have hfz35_0 := kfr BK312.out 0; have hfz35_1 := kfr BK312.out 1; have hfz35_2 := kfr BK312.out 2))
           all_goals try (exfalso; first | (have h_ : (!(t313).toList.isEmpty) = true := (by assumption); rw [c25b3] at h_; exact absurd h_ (by decide)) | (have h_ : (!(t313).toList.isEmpty) = false := (by assumption); rw [c25b3] at h_; exact absurd h_ (by decide)))
           go_meet
           case rel => exact ⟨_, H', ⟨by have := HJ7.out; first | omega | exact Nat.le_refl _⟩, ⟨by (with_reducible repeat (first | apply kra | apply krn | apply krd)); exact Kd.R_mono (kfa (p := ⟨gb319, 2, none⟩) (kfa (p := ⟨gb319, 1, none⟩) (kfa (p := ⟨gb319, 0, none⟩) (Kd.R_mono HO_7.out (fun k_ hk => (⟨hk, hk.2⟩ : _ ∧ k_ ≠ gb319))) (fun _ hk => hk.2) (.int .i64 t314)) (fun _ hk => hk.2) (.int .i64 t315)) (fun _ hk => hk.2) (.string t316)) (fun _ hk => hk.1.1.2)⟩, ⟨by (with_reducible repeat (first | apply kdn | apply kdr | apply kal)); refine blk_far ?_ NB312_319.out _; (with_reducible repeat (first | apply kdn | apply kdr | apply kal)); refine blk_far ?_ NB312_319.out _; (with_reducible repeat (first | apply kdn | apply kdr | apply kal)); refine blk_far ?_ NB312_319.out _; (with_reducible repeat (first | apply kdn | apply kdr | apply kal)); exact BK312.out⟩, ⟨by repeat (first | (with_reducible first | exact HB.out | apply bal | apply pdn | apply bd1 | refine bst ?_ GE312.out | refine bst ?_ GE319.out) | exact HB.out)⟩⟩
          ·rw [if_neg c30] at H
           have c30b0 : (t317 == (t313.size : Int)) = false := beq_eq_false_iff_ne.mpr c30
           have c30b1 : (t317 != (t313.size : Int)) = true := bne_iff_ne.mpr c30
           exact absurd ((Option.some.inj H).trans hT.out) (by decide)
        ·replace c28 := Bool.eq_false_iff.mpr c28
         subst c28
         have H1 : (some false) = some r := by rw [if_neg (show ¬ (false = true) by decide)] at H; exact H
         clear H
         have H := H1
         clear H1
         exact absurd ((Option.some.inj H).trans hT.out) (by decide)
       ·rw [if_neg c26] at H
        exact absurd H (by simp)
     case rest =>
      clear HC20
      obtain ⟨kq, HA, HJ19, HO_7, BK312, HB⟩ := hcut
      cases kq with
      | zero => exact absurd HA.out (by simp [laws_FnOps.j1])
      | succ kj19 =>
       have H := HA.out
       clear HA
       simp only [laws_FnOps.j1] at H
       have H' := am H
       clear H
       go_wp2
       all_goals try (exfalso; first | (have h_ : (!(t313).toList.isEmpty) = true := (by assumption); rw [c25b3] at h_; exact absurd h_ (by decide)) | (have h_ : (!(t313).toList.isEmpty) = false := (by assumption); rw [c25b3] at h_; exact absurd h_ (by decide)))
       go_loopg [17] kj19 (fun kq v17 w' => ∃ (x17_3 : Int), v17 = .int .i64 x17_3 ∧ Aside0 (laws_FnOps.l0 kq l1 t300 t301 t302 t305 t306 x17_3 = some r) ∧ Aside0 (kq ≤ kj19) ∧ Aside0 (Kd.R k60 60 w' w.heap.size (fun k_ => k_ ≠ gb312) (.slice Ao10 t302.length co10) t302) ∧ Aside0 (w'.heap[gb312]? = some (.cells #[.int .i64 t309, .int .i64 t310, .string t311] 60 (0, 0))) ∧ Aside0 (Below w.heap.size w w'))
       case atStart => exact ⟨(0), (by first | rfl | (simp; done) | (simp [*]; done)), H', ⟨Nat.le_refl _⟩, ⟨by (with_reducible repeat (first | apply kra | apply krn | apply krd)); exact HO_7.out⟩, ⟨by (with_reducible repeat (first | apply kdn | apply kdr | apply kal)); exact BK312.out⟩, ⟨by repeat (first | (with_reducible first | exact HB.out | apply bal | apply pdn | apply bd1 | refine bst ?_ GE312.out) | exact HB.out)⟩⟩
       case round =>
        clear H'
        obtain ⟨x17_3, rfl, HA, HK3, HO_7, BK312, HB⟩ := hrel
        cases gk with
        | zero => exact absurd HA.out (by simp [laws_FnOps.l0])
        | succ k3 =>
         have H := HA.out
         clear HA
         simp only [laws_FnOps.l0] at H
         by_cases c36 : x17_3 < (t302.length : Int)
         ·rw [if_pos c36] at H
          have c36b0 : decide (x17_3 < (t302.length : Int)) = true := decide_eq_true c36
          clear c36
          by_cases c37 : 0 ≤ x17_3
          ·rw [if_pos c37] at H
           have c37b0 : decide (0 ≤ x17_3) = true := decide_eq_true c37
           clear c37
           replace H := Option.bind_eq_some_iff.mp H
           obtain ⟨t321, A380, H⟩ := H
           replace H : (if t321 = true then (laws_FnOps.l0 k3 l1 t300 t301 t302 t305 t306 (wrap64 (x17_3 + 1))) else (some true)) = some r := H
           have A38 := am A380
           clear A380
           by_cases c39 : t321 = true
           ·subst c39
            have H1 : (laws_FnOps.l0 k3 l1 t300 t301 t302 t305 t306 (wrap64 (x17_3 + 1))) = some r := by rw [if_pos rfl] at H; exact H
            clear H
            have H := H1
            clear H1
            have H' := am H
            clear H
            have p320 : 0 ≤ (x17_3 : Int) := of_decide_eq_true (by first | (with_reducible assumption) | assumption)
            have q320 : x17_3 < (t302.length : Int) := of_decide_eq_true (by first | (with_reducible assumption) | assumption)
            obtain ⟨ad320, e320, hx320_0, hx320_1, hx320_2⟩ := at_T60 (Kd.R_reads' HO_7.out).2.2 x17_3 p320 q320
            cases e320
            replace p320 := eq_true p320
            replace q320 := eq_true q320
            go_wp2_with (first | ((with_reducible refine gate_callee (f := 53) rfl ?_); refine goesL_ (some 104) rfl rfl Try.func53 (by kernel_rfl) rfl #[.agg #[.int .i64 1, .int .i64 0], .agg #[.int .i64 ((rd_T60 t302 x17_3).f0), .int .i64 ((rd_T60 t302 x17_3).f1), .string ((rd_T60 t302 x17_3).f2)]] rfl (by (try simp only [mta, mco, mni]); first | done | rfl | (simp only [lnd, lnt]; rfl)) ?_; (with_reducible refine (spec_OpOk.calls k3 1 0 ((rd_T60 t302 x17_3).f0) ((rd_T60 t302 x17_3).f1) ((rd_T60 t302 x17_3).f2) true _ A38.out).mono ?_); rintro e w40 ⟨rfl, hb⟩; refine ⟨_, rfl, ?_⟩; have n0_ := am (krb (by (with_reducible repeat (first | apply kra | apply krn | apply krd)); exact HO_7.out) hb); have n1_ := am (kbb (g := gb312) (o := .cells #[.int .i64 t309, .int .i64 t310, .string t311] 60 (0, 0)) (by (with_reducible repeat (first | apply kdn | apply kdr | apply kal)); exact BK312.out) hb); have n2_ := am (below_step (by repeat (first | (with_reducible first | exact HB.out | apply bal | apply pdn | apply bd1 | refine bst ?_ GE312.out) | exact HB.out)) hb); clear HO_7; clear BK312; clear HB; have HO_7 := n0_; have BK312 := n1_; have HB := n2_; clear n0_ n1_ n2_; (try clear hb); (try clear hb2); (try clear hk); (try clear hi)))
            all_goals try (exfalso; first | (have h_ : (!(t313).toList.isEmpty) = true := (by assumption); rw [c25b3] at h_; exact absurd h_ (by decide)) | (have h_ : (!(t313).toList.isEmpty) = false := (by assumption); rw [c25b3] at h_; exact absurd h_ (by decide)))
            go_roundg k3
            case measure => have := HJ7.out; have := HJ19.out; have := HK3.out; omega
            case rel => exact ⟨(wrap64 (x17_3 + 1)), (by first | rfl | (simp; done) | (simp [*]; done)), H', ⟨by have := HJ7.out; have := HJ19.out; have := HK3.out; omega⟩, ⟨by (with_reducible repeat (first | apply kra | apply krn | apply krd)); exact HO_7.out⟩, ⟨by (with_reducible repeat (first | apply kdn | apply kdr | apply kal)); exact BK312.out⟩, ⟨by repeat (first | (with_reducible first | exact HB.out | apply bal | apply pdn | apply bd1 | refine bst ?_ GE312.out) | exact HB.out)⟩⟩
           ·replace c39 := Bool.eq_false_iff.mpr c39
            subst c39
            have H1 : (some true) = some r := by rw [if_neg (show ¬ (false = true) by decide)] at H; exact H
            clear H
            have H := H1
            clear H1
            obtain rfl := Option.some.inj H
            have p320 : 0 ≤ (x17_3 : Int) := of_decide_eq_true (by first | (with_reducible assumption) | assumption)
            have q320 : x17_3 < (t302.length : Int) := of_decide_eq_true (by first | (with_reducible assumption) | assumption)
            obtain ⟨ad320, e320, hx320_0, hx320_1, hx320_2⟩ := at_T60 (Kd.R_reads' HO_7.out).2.2 x17_3 p320 q320
            cases e320
            replace p320 := eq_true p320
            replace q320 := eq_true q320
            go_wp2_with (first | ((with_reducible refine gate_callee (f := 53) rfl ?_); refine goesL_ (some 104) rfl rfl Try.func53 (by kernel_rfl) rfl #[.agg #[.int .i64 1, .int .i64 0], .agg #[.int .i64 ((rd_T60 t302 x17_3).f0), .int .i64 ((rd_T60 t302 x17_3).f1), .string ((rd_T60 t302 x17_3).f2)]] rfl (by (try simp only [mta, mco, mni]); first | done | rfl | (simp only [lnd, lnt]; rfl)) ?_; (with_reducible refine (spec_OpOk.calls k3 1 0 ((rd_T60 t302 x17_3).f0) ((rd_T60 t302 x17_3).f1) ((rd_T60 t302 x17_3).f2) false _ A38.out).mono ?_); rintro e w41 ⟨rfl, hb⟩; refine ⟨_, rfl, ?_⟩; have n0_ := am (krb (by (with_reducible repeat (first | apply kra | apply krn | apply krd)); exact HO_7.out) hb); have n1_ := am (kbb (g := gb312) (o := .cells #[.int .i64 t309, .int .i64 t310, .string t311] 60 (0, 0)) (by (with_reducible repeat (first | apply kdn | apply kdr | apply kal)); exact BK312.out) hb); have n2_ := am (below_step (by repeat (first | (with_reducible first | exact HB.out | apply bal | apply pdn | apply bd1 | refine bst ?_ GE312.out) | exact HB.out)) hb); clear HO_7; clear BK312; clear HB; have HO_7 := n0_; have BK312 := n1_; have HB := n2_; clear n0_ n1_ n2_; (try clear hb); (try clear hb2); (try clear hk); (try clear hi)))
            all_goals try (exfalso; first | (have h_ : (!(t313).toList.isEmpty) = true := (by assumption); rw [c25b3] at h_; exact absurd h_ (by decide)) | (have h_ : (!(t313).toList.isEmpty) = false := (by assumption); rw [c25b3] at h_; exact absurd h_ (by decide)))
            go_ret
            exact ⟨by first | rfl | (simp [errW_none, errW_some] <;> rfl) | (simp [*, errW_none, errW_some] <;> rfl), by repeat (first | (with_reducible first | exact HB.out | apply bal | apply pdn | apply bd1 | refine bst ?_ GE312.out) | exact HB.out)⟩
          ·rw [if_neg c37] at H
           exact absurd H (by simp)
         ·rw [if_neg c36] at H
          have c36b0 : decide (x17_3 < (t302.length : Int)) = false := decide_eq_false c36
          clear c36
          have HC42 := am H
          clear H
          go_upto_region 19 with (fail)
          go_cut [113] (fun v113 wc => ∃ (kq : Nat) (x113_41 : Bool), v113 = .bool x113_41 ∧ Aside0 (laws_FnOps.j3 kq l1 t300 t301 t302 t305 t306 x113_41 = some r) ∧ Aside0 (kq ≤ k3) ∧ Aside0 (Kd.R k60 60 wc w.heap.size (fun k_ => k_ ≠ gb312) (.slice Ao10 t302.length co10) t302) ∧ Aside0 (wc.heap[gb312]? = some (.cells #[.int .i64 t309, .int .i64 t310, .string t311] 60 (0, 0))) ∧ Aside0 (Below w.heap.size w wc))
          case first =>
           have H := HC42.out
           clear HC42
           by_cases c43 : (t302.length : Int) > 24
           ·rw [if_pos c43] at H
            have c43b0 : decide (24 < (t302.length : Int)) = true := decide_eq_true c43
            have c43b1 : decide (24 < t302.length) = true := decide_eq_true (by omega)
            clear c43
            (first | rw [c43b0] | (simp only [i64_w, i32_w]; rw [c43b0]) | skip)
            have H' := am H
            clear H
            go_wp2
            all_goals try (exfalso; first | (have h_ : (!(t313).toList.isEmpty) = true := (by assumption); rw [c25b3] at h_; exact absurd h_ (by decide)) | (have h_ : (!(t313).toList.isEmpty) = false := (by assumption); rw [c25b3] at h_; exact absurd h_ (by decide)))
            go_meet
            case rel => exact ⟨_, (true), (by first | rfl | (simp; done) | (simp [*]; done)), H', ⟨by have := HJ7.out; have := HJ19.out; have := HK3.out; first | omega | exact Nat.le_refl _⟩, ⟨by (with_reducible repeat (first | apply kra | apply krn | apply krd)); exact HO_7.out⟩, ⟨by (with_reducible repeat (first | apply kdn | apply kdr | apply kal)); exact BK312.out⟩, ⟨by repeat (first | (with_reducible first | exact HB.out | apply bal | apply pdn | apply bd1 | refine bst ?_ GE312.out) | exact HB.out)⟩⟩
           ·rw [if_neg c43] at H
            have c43b0 : decide (24 < (t302.length : Int)) = false := decide_eq_false c43
            have c43b1 : decide (24 < t302.length) = false := decide_eq_false (by omega)
            clear c43
            (first | rw [c43b0] | (simp only [i64_w, i32_w]; rw [c43b0]) | skip)
            have H' := am H
            clear H
            go_wp2
            all_goals try (exfalso; first | (have h_ : (!(t313).toList.isEmpty) = true := (by assumption); rw [c25b3] at h_; exact absurd h_ (by decide)) | (have h_ : (!(t313).toList.isEmpty) = false := (by assumption); rw [c25b3] at h_; exact absurd h_ (by decide)))
            go_meet
            case rel => exact ⟨_, (decide ((t300.size : Int) > 64)), (by first | rfl | (simp; done) | (simp [*]; done)), H', ⟨by have := HJ7.out; have := HJ19.out; have := HK3.out; first | omega | exact Nat.le_refl _⟩, ⟨by (with_reducible repeat (first | apply kra | apply krn | apply krd)); exact HO_7.out⟩, ⟨by (with_reducible repeat (first | apply kdn | apply kdr | apply kal)); exact BK312.out⟩, ⟨by repeat (first | (with_reducible first | exact HB.out | apply bal | apply pdn | apply bd1 | refine bst ?_ GE312.out) | exact HB.out)⟩⟩
          case rest =>
           clear HC42
           obtain ⟨kq, x113_41, rfl, HA, HJ41, HO_7, BK312, HB⟩ := hcut
           cases kq with
           | zero => exact absurd HA.out (by simp [laws_FnOps.j3])
           | succ kj41 =>
            have H := HA.out
            clear HA
            simp only [laws_FnOps.j3] at H
            by_cases c44 : x113_41 = true
            ·subst c44
             have H1 : (some true) = some r := by rw [if_pos rfl] at H; exact H
             clear H
             have H := H1
             clear H1
             obtain rfl := Option.some.inj H
             go_wp2
             all_goals try (exfalso; first | (have h_ : (!(t313).toList.isEmpty) = true := (by assumption); rw [c25b3] at h_; exact absurd h_ (by decide)) | (have h_ : (!(t313).toList.isEmpty) = false := (by assumption); rw [c25b3] at h_; exact absurd h_ (by decide)))
             go_ret
             exact ⟨by first | rfl | (simp [errW_none, errW_some] <;> rfl) | (simp [*, errW_none, errW_some] <;> rfl), by repeat (first | (with_reducible first | exact HB.out | apply bal | apply pdn | apply bd1 | refine bst ?_ GE312.out) | exact HB.out)⟩
            ·replace c44 := Bool.eq_false_iff.mpr c44
             subst c44
             have H1 : ((laws_b10At.f l1 0 (wrap64 ((t302.length : Int) + 1))).bind fun t322 => (if 0 ≤ t322 then (if t322 ≤ (t302.length : Int) then ((impl_ApplyOps.f t300 t301 (t302.take (t322 : Int).toNat)).bind fun bt327 => ((impl_ApplyOps.f bt327.1 bt327.2 (t302.drop (t322 : Int).toNat)).bind fun bt333 => (if bt333.1.toList = t305.toList then (some (bt333.2 == t306)) else (some false)))) else (none)) else (none))) = some r := by rw [if_neg (show ¬ (false = true) by decide)] at H; exact H
             clear H
             have H := H1
             clear H1
             replace H := Option.bind_eq_some_iff.mp H
             obtain ⟨t322, A450, H⟩ := H
             replace H : (if 0 ≤ t322 then (if t322 ≤ (t302.length : Int) then ((impl_ApplyOps.f t300 t301 (t302.take (t322 : Int).toNat)).bind fun bt327 => ((impl_ApplyOps.f bt327.1 bt327.2 (t302.drop (t322 : Int).toNat)).bind fun bt333 => (if bt333.1.toList = t305.toList then (some (bt333.2 == t306)) else (some false)))) else (none)) else (none)) = some r := H
             have A45 := am A450
             clear A450
             by_cases c46 : 0 ≤ t322
             ·rw [if_pos c46] at H
              have c46b0 := eq_true c46
              have c46b1 : decide (0 ≤ t322) = true := decide_eq_true c46
              clear c46
              by_cases c47 : t322 ≤ (t302.length : Int)
              ·rw [if_pos c47] at H
               have c47b0 := eq_true c47
               have c47b1 : decide (t322 ≤ (t302.length : Int)) = true := decide_eq_true c47
               clear c47
               obtain ⟨y323, hy323⟩ : ∃ y_ : List (S60), y_ = (t302.take (t322 : Int).toNat) := ⟨_, rfl⟩
               replace H : ((impl_ApplyOps.f t300 t301 y323).bind fun bt327 => ((impl_ApplyOps.f bt327.1 bt327.2 (t302.drop (t322 : Int).toNat)).bind fun bt333 => (if bt333.1.toList = t305.toList then (some (bt333.2 == t306)) else (some false)))) = some r := by first | (rw [hy323]; with_reducible exact H) | (have H2_ := (Option.bind_some _ _).symm.trans H; rw [hy323]; with_reducible exact H2_) | (have H2_ := (Option.bind_some _ _).symm.trans H; with_reducible exact H2_) | with_reducible exact H | (rw [hy323]; exact H) | exact H
               have Ny323 := am hy323
               clear hy323
               replace H := Option.bind_eq_some_iff.mp H
               obtain ⟨⟨t327, t328⟩, A480, H⟩ := H
               replace H : ((impl_ApplyOps.f t327 t328 (t302.drop (t322 : Int).toNat)).bind fun bt333 => (if bt333.1.toList = t305.toList then (some (bt333.2 == t306)) else (some false))) = some r := H
               have A48 := am A480
               clear A480
               have c49b0 := eq_true (of_decide_eq_true (by first | (with_reducible assumption) | assumption) : 0 ≤ t322)
               have c50b0 := eq_true (of_decide_eq_true (by first | (with_reducible assumption) | assumption) : t322 ≤ (t302.length : Int))
               obtain ⟨y329, hy329⟩ : ∃ y_ : List (S60), y_ = (t302.drop (t322 : Int).toNat) := ⟨_, rfl⟩
               replace H : ((impl_ApplyOps.f t327 t328 y329).bind fun bt333 => (if bt333.1.toList = t305.toList then (some (bt333.2 == t306)) else (some false))) = some r := by first | (rw [hy329]; with_reducible exact H) | (have H2_ := (Option.bind_some _ _).symm.trans H; rw [hy329]; with_reducible exact H2_) | (have H2_ := (Option.bind_some _ _).symm.trans H; with_reducible exact H2_) | with_reducible exact H | (rw [hy329]; exact H) | exact H
               have Ny329 := am hy329
               clear hy329
               replace H := Option.bind_eq_some_iff.mp H
               obtain ⟨⟨t333, t334⟩, A510, H⟩ := H
               replace H : (if t333.toList = t305.toList then (some (t334 == t306)) else (some false)) = some r := H
               have A51 := am A510
               clear A510
               by_cases c52 : t333.toList = t305.toList
               ·rw [if_pos c52] at H
                have c52b0 : (t333.toList == t305.toList) = true := beq_iff_eq.mpr c52
                have c52b1 : (t333.toList != t305.toList) = false := bne_eq_false_iff_eq.mpr c52
                clear c52
                obtain rfl := Option.some.inj H
                go_wp2_with (first | ((with_reducible refine gate_callee (f := 54) rfl ?_); refine goesL_ (some 118) rfl rfl Try.func54 (by kernel_rfl) rfl #[.slice A1 l1.length c1, .int .i64 0, .int .i64 (wrap64 ((t302.length : Int) + 1))] rfl (by (try simp only [mta, mco, mni]); first | done | rfl | (simp only [lnd, lnt]; rfl)) ?_; (with_reducible refine (laws_b10At.calls _ _ l1 0 (wrap64 ((t302.length : Int) + 1)) t322 _ ?side1 ?side2 A45.out).mono ?_); (case side1 => repeat (first | exact (Kd.C_below HR1.out HB.out) | (with_reducible first | apply kca | apply kcn | apply kcd))); (case side2 => exact HC1.out); rintro e w' ⟨rfl, ⟨nd, rfl⟩⟩; refine ⟨_, rfl, ?_⟩; have q53 : (t322 : Int) ≤ ((t302.length : Int) : Int) := of_decide_eq_true (by first | (with_reducible assumption) | assumption); obtain ⟨i053, hi053, _, hsz53, _⟩ := info_parts info60; have hroom53 : t302.length ≤ co10 := (Kd.R_reads' HO_7.out).2.1; have hC53 : Kd.C k60 _ Ao10 t302.length t302 := (Kd.R_reads' HO_7.out).2.2; have hcut53 := cut_to (P := Try.prog) 73 60 .i64 Try.underlying73 hi053 Ao10 t302.length co10 t322 (of_decide_eq_true (by first | (with_reducible assumption) | assumption)) q53 hroom53; have hr53 := Kd.C_take (m := (t322 : Int).toNat) hC53 (by omega); have hy53 : y323.length = (t322 : Int).toNat := (by rw [Ny323.out, lnt]; omega); rw [← Ny323.out] at hr53; rw [← hy53] at hcut53; have HR326 := am hr53; have HC326 := am (show y323.length ≤ co10 from by omega); clear hr53 hC53 hroom53 hi053 hsz53; have KY53 := am hy53; clear hy53; have KL53 := am (show (t322 : Int).toNat ≤ t302.length from by omega); replace q53 := eq_true q53) | ((with_reducible refine gate_callee (f := 48) rfl ?_); refine goesL_ (some 125) rfl rfl Try.func48 (by kernel_rfl) rfl #[.string t300, .bool t301, .slice Ao10 y323.length co10] rfl (by (try simp only [mta, mco, mni]); first | done | rfl | (simp only [lnd, lnt]; rfl)) ?_; (with_reducible refine (impl_ApplyOps.calls t300 t301 _ _ y323 t327 t328 _ ?side1 ?side2 A48.out).mono ?_); (case side1 => repeat (first | exact (by repeat (first | (with_reducible exact HR326.out) | (with_reducible first | apply kca | apply kcn | apply kcd) | exact HR326.out)) | (with_reducible first | apply kca | apply kcn | apply kcd))); (case side2 => exact HC326.out); rintro e w54 ⟨rfl, hb⟩; refine ⟨_, rfl, ?_⟩; have n0_ := am (krb (by (with_reducible repeat (first | apply kra | apply krn | apply krd)); exact HO_7.out) hb); have n1_ := am (kbb (g := gb312) (o := .cells #[.int .i64 t309, .int .i64 t310, .string t311] 60 (0, 0)) (by (with_reducible repeat (first | apply kdn | apply kdr | apply kal)); exact BK312.out) hb); have n2_ := am (Kd.C_below (by repeat (first | (with_reducible exact HR326.out) | (with_reducible first | apply kca | apply kcn | apply kcd) | exact HR326.out)) hb); have n3_ := am (below_step (by repeat (first | (with_reducible first | exact HB.out | apply bal | apply pdn | apply bd1 | refine bst ?_ GE312.out) | exact HB.out)) hb); clear HO_7; clear BK312; clear HR326; clear HB; have HO_7 := n0_; have BK312 := n1_; have HR326 := n2_; have HB := n3_; clear n0_ n1_ n2_ n3_; (try clear hb); (try clear hb2); (try clear hk); (try clear hi); have q55 : (t322 : Int) ≤ ((t302.length : Int) : Int) := of_decide_eq_true (by first | (with_reducible assumption) | assumption); obtain ⟨i055, hi055, _, hsz55, _⟩ := info_parts info60; have hroom55 : t302.length ≤ co10 := (Kd.R_reads' HO_7.out).2.1; have hC55 : Kd.C k60 _ Ao10 t302.length t302 := (Kd.R_reads' HO_7.out).2.2; have q055 : (0 : Int) ≤ (t322 : Int) := of_decide_eq_true (by first | (with_reducible assumption) | assumption); have hcut55 := cut_from (P := Try.prog) 73 60 .i64 Try.underlying73 hi055 3 hsz55 Ao10 t302.length co10 t322 q055 q55; have hr55 := Kd.C_drop (m := (t322 : Int).toNat) (c := co10) hC55 (by omega) hroom55; obtain ⟨A55, hA55⟩ : ∃ A1, A1 = (if co10 = (t322 : Int).toNat then Ao10 else (Ao10 : Option Addr).map (·.add ((t322 : Int).toNat * 3))) := ⟨_, rfl⟩; obtain ⟨c55, hc55⟩ : ∃ c1, c1 = co10 - (t322 : Int).toNat := ⟨_, rfl⟩; have hy55 : y329.length = t302.length - (t322 : Int).toNat := (by rw [Ny329.out, lnd] <;> omega); rw [show (t302).drop (t322 : Int).toNat = y329 from Ny329.out.symm] at hr55; replace hr55 : Kd.C k60 _ A55 y329.length y329 := (by rw [hA55]; exact hr55); rw [← hy55, ← hA55, ← hc55] at hcut55; have HR332 := am hr55; have HC332 := am (show y329.length ≤ c55 from by rw [hy55, hc55]; exact Nat.sub_le_sub_right hroom55 _); clear hr55 hC55 hroom55 hi055 hsz55 hc55; have KY55 := am hy55; have KA55 := am hA55; clear hy55 hA55; have KL55 := am (show (t322 : Int).toNat ≤ t302.length from by omega); replace q55 := eq_true q55) | ((with_reducible refine gate_callee (f := 48) rfl ?_); refine goesL_ (some 134) rfl rfl Try.func48 (by kernel_rfl) rfl #[.string t327, .bool t328, .slice A55 y329.length c55] rfl (by (try simp only [mta, mco, mni]); first | done | rfl | (simp only [lnd, lnt]; rfl)) ?_; (with_reducible refine (impl_ApplyOps.calls t327 t328 _ _ y329 t333 t334 _ ?side1 ?side2 A51.out).mono ?_); (case side1 => repeat (first | exact (by repeat (first | (with_reducible exact HR332.out) | (with_reducible first | apply kca | apply kcn | apply kcd) | exact HR332.out)) | (with_reducible first | apply kca | apply kcn | apply kcd))); (case side2 => exact HC332.out); rintro e w56 ⟨rfl, hb⟩; refine ⟨_, rfl, ?_⟩; have n0_ := am (krb (by (with_reducible repeat (first | apply kra | apply krn | apply krd)); exact HO_7.out) hb); have n1_ := am (kbb (g := gb312) (o := .cells #[.int .i64 t309, .int .i64 t310, .string t311] 60 (0, 0)) (by (with_reducible repeat (first | apply kdn | apply kdr | apply kal)); exact BK312.out) hb); have n2_ := am (Kd.C_below (by repeat (first | (with_reducible exact HR326.out) | (with_reducible first | apply kca | apply kcn | apply kcd) | exact HR326.out)) hb); have n3_ := am (Kd.C_below (by repeat (first | (with_reducible exact HR332.out) | (with_reducible first | apply kca | apply kcn | apply kcd) | exact HR332.out)) hb); have n4_ := am (below_step (by repeat (first | (with_reducible first | exact HB.out | apply bal | apply pdn | apply bd1 | refine bst ?_ GE312.out) | exact HB.out)) hb); clear HO_7; clear BK312; clear HR326; clear HR332; clear HB; have HO_7 := n0_; have BK312 := n1_; have HR326 := n2_; have HR332 := n3_; have HB := n4_; clear n0_ n1_ n2_ n3_ n4_; (try clear hb); (try clear hb2); (try clear hk); (try clear hi)))
                all_goals try (exfalso; first | (have h_ : (!(t313).toList.isEmpty) = true := (by assumption); rw [c25b3] at h_; exact absurd h_ (by decide)) | (have h_ : (!(t313).toList.isEmpty) = false := (by assumption); rw [c25b3] at h_; exact absurd h_ (by decide)))
                go_ret
                exact ⟨by first | rfl | (simp [errW_none, errW_some] <;> rfl) | (simp [*, errW_none, errW_some] <;> rfl), by repeat (first | (with_reducible first | exact HB.out | apply bal | apply pdn | apply bd1 | refine bst ?_ GE312.out) | exact HB.out)⟩
               ·rw [if_neg c52] at H
                have c52b0 : (t333.toList == t305.toList) = false := beq_eq_false_iff_ne.mpr c52
                have c52b1 : (t333.toList != t305.toList) = true := bne_iff_ne.mpr c52
                exact absurd ((Option.some.inj H).trans hT.out) (by decide)
              ·rw [if_neg c47] at H
               exact absurd H (by simp)
             ·rw [if_neg c46] at H
              exact absurd H (by simp)

/-- THE ONE PURE STATEMENT of laws_FnOps: yours. -/
def laws_FnOps.Pure : Prop := ∀ (l0 : List Int) (l1 : List Int), l0.length ≤ maxLen → l0.length * 1 ≤ 140737488351232 → (∀ x ∈ l0, (Lit.int .u8 x).wf = true) → l1.length ≤ maxLen → l1.length * 1 ≤ 140737488351232 → (∀ x ∈ l1, (Lit.int .u8 x).wf = true) → ∃ k, laws_FnOps.f k l0 l1 = some true
theorem laws_FnOps.walk (P : laws_FnOps.Pure) (a0 : Option Addr) (len0 cap0 : Nat) (z0 : List Int) (a1 : Option Addr) (len1 cap1 : Nat) (z1 : List Int) (w : World) (w0 : (a0 = none ∧ len0 = 0 ∧ cap0 = 0 ∧ z0 = []) ∨ ∃ x, a0 = some x ∧ len0 ≤ cap0 ∧ cap0 ≤ maxLen ∧ z0.length = cap0 ∧ (∀ i, i < z0.length → w.cell? (x.add i) = some (.int .u8 (z0.getD i 0))) ∧ ∀ n ∈ z0, (Lit.int .u8 n).wf = true) (y0 : len0 * 1 ≤ 140737488351232) (w1 : (a1 = none ∧ len1 = 0 ∧ cap1 = 0 ∧ z1 = []) ∨ ∃ x, a1 = some x ∧ len1 ≤ cap1 ∧ cap1 ≤ maxLen ∧ z1.length = cap1 ∧ (∀ i, i < z1.length → w.cell? (x.add i) = some (.int .u8 (z1.getD i 0))) ∧ ∀ n ∈ z1, (Lit.int .u8 n).wf = true) (y1 : len1 * 1 ≤ 140737488351232) :
  Calls Try.prog 14 #[.slice a0 len0 cap0, .slice a1 len1 cap1] w fun e w' => e = .returned (.bool true) ∧ Below w.heap.size w w' := by
 obtain ⟨l0, rfl, hr0, hm0, hw0, hc0⟩ := ReadsInt.ofRowC w0
 obtain ⟨l1, rfl, hr1, hm1, hw1, hc1⟩ := ReadsInt.ofRowC w1
 obtain ⟨k, h⟩ := P l0 l1 hm0 y0 hw0 hm1 y1 hw1
 refine (laws_FnOps.calls k _ _ l0 _ _ l1 true w (Kd.C_of_reads (d := (0 : Int)) (h1 := fun _ => rfl) hr0) hc0 (Kd.C_of_reads (d := (0 : Int)) (h1 := fun _ => rfl) hr1) hc1 rfl h).mono ?_
 rintro e w' ⟨rfl, hd⟩
 exact ⟨rfl, hd⟩

end Go.Proofs.Ythphhklbliambaa.MFnOps
