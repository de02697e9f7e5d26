-- Written by a program of this session (wip/tools/myprint.py) over the kit's print: it is not the kit's print.
import Derived.Test.YthphhklbliambaaExtra
import Derived.Test.YthphhklbliambaaMFnOpsx0
import Derived.Test.YthphhklbliambaaMFnOpsx5
import Derived.Test.YthphhklbliambaaMFnOpsx8
import Derived.Test.YthphhklbliambaaMFnOpsx9
namespace Go.Proofs.Ythphhklbliambaa.MFnOps
open Go.RowKit Go.Proofs.YthphhklbliambaaW.PrintWords Go.Proofs.YthphhklbliambaaW.PrintLast Go.Proofs.YthphhklbliambaaW.PrintMore
open List renaming setIfInBounds_toArray → sit, set_cons_zero → scz, set_cons_succ → scs, map_toArray → mta, map_cons → mco, map_nil → mni, length_drop → lnd, length_take → lnt
attribute [local go_sem] max2_int min2_int max_two min_two max_three min_three max_four min_four   -- for this text's walks alone
set_option linter.unusedVariables false
set_option linter.unusedSimpArgs false

/-! ### spec_DrawApplyOps: function 51 -/
mutual
def spec_DrawApplyOps.j0 : Nat → Bool → ByteArray → List (S60) → Int → List Int → Int → Int → Option (ByteArray × Bool × (List (S60)))
 | 0, _, _, _, _, _, _, _ => none
 | k + 1, x6, x7, x8, x9, x258000, x258001, x258002 => spec_DrawApplyOps.l0 k x6 x7 x8 x9 0 x258000 x258001 x258002
def spec_DrawApplyOps.l0 : Nat → Bool → ByteArray → List (S60) → Int → Int → List Int → Int → Int → Option (ByteArray × Bool × (List (S60)))
 | 0, _, _, _, _, _, _, _, _ => none
 | k + 1, x6, x7, x8, x9, x10, x258000, x258001, x258002 => if x10 < x9 then ((spec_l16Plain.f).bind fun bt276 => ((spec_l16Op.f k x258000 x258001 x258002 bt276.1 bt276.2).bind fun bt278 => (if x8.length < 4398046511104 then (spec_DrawApplyOps.l0 k x6 x7 (x8 ++ [(⟨bt278.1, bt278.2.1, bt278.2.2.1⟩ : S60)]) x9 (wrap64 (x10 + 1)) x258000 bt278.2.2.2.1 bt278.2.2.2.2) else (none)))) else (some (x7, x6, x8))
end
def spec_DrawApplyOps.f (k : Nat) (l0 : List Int) : Option (ByteArray × Bool × (List (S60))) := (spec_l00From.f l0).bind fun bt254 => ((spec_l00Src_one.f bt254.1 bt254.2.1 bt254.2.2 4).bind fun bt258 => ((spec_l16Bytes.f k bt254.1 bt258.2.1 bt258.2.2).bind fun bt261 => ((some (([] : List (S60)) : List (S60))).bind fun y264 => ((spec_l00Src_pick.f bt254.1 bt261.2.1 bt261.2.2 6).bind fun bt267 => ((spec_l00Src_one.f bt254.1 bt267.2.1 bt267.2.2 15).bind fun bt270 => (if bt270.1 = true then ((spec_l00Src_pick.f bt254.1 bt270.2.1 bt270.2.2 2).bind fun bt273 => (spec_DrawApplyOps.j0 k (!bt258.1) bt261.1 y264 (wrap64 (24 + bt273.1)) bt254.1 bt273.2.1 bt273.2.2)) else (spec_DrawApplyOps.j0 k (!bt258.1) bt261.1 y264 bt267.1 bt254.1 bt270.2.1 bt270.2.2)))))))
theorem spec_DrawApplyOps.mono_l : ∀ k, (∀ y0 y1 y2 y3 y4 y5 y6, LeO (spec_DrawApplyOps.j0 k y0 y1 y2 y3 y4 y5 y6) (spec_DrawApplyOps.j0 (k + 1) y0 y1 y2 y3 y4 y5 y6)) ∧ (∀ y0 y1 y2 y3 y4 y5 y6 y7, LeO (spec_DrawApplyOps.l0 k y0 y1 y2 y3 y4 y5 y6 y7) (spec_DrawApplyOps.l0 (k + 1) y0 y1 y2 y3 y4 y5 y6 y7))
 | 0 => ⟨fun _ _ _ _ _ _ _ r h => by simp [spec_DrawApplyOps.j0] at h, fun _ _ _ _ _ _ _ _ r h => by simp [spec_DrawApplyOps.l0] at h⟩
 | k + 1 => by
  obtain ⟨ih0, ih1⟩ := spec_DrawApplyOps.mono_l k
  refine ⟨?_, ?_⟩
  ·intro y0 y1 y2 y3 y4 y5 y6
   unfold spec_DrawApplyOps.j0
   repeat' first
   | (with_reducible exact ih0 _ _ _ _ _ _ _)
   | (with_reducible exact ih1 _ _ _ _ _ _ _ _)
   | (with_reducible exact spec_l16Bytes.mono _ _ _ _)
   | (with_reducible exact spec_l16Op.mono _ _ _ _ _ _)
   | (with_reducible exact LeO.refl _)
   | (with_reducible exact LeO.none _)
   | (with_reducible refine LeO.ite ?_ ?_)
   | (with_reducible refine LeO.bind ?_ (fun _ => ?_))
   | exact ih0 _ _ _ _ _ _ _
   | exact ih1 _ _ _ _ _ _ _ _
   | exact spec_l16Bytes.mono _ _ _ _
   | exact spec_l16Op.mono _ _ _ _ _ _
   | exact LeO.none _
   | refine LeO.ite ?_ ?_
   | refine LeO.bind ?_ (fun _ => ?_)
  ·intro y0 y1 y2 y3 y4 y5 y6 y7
   unfold spec_DrawApplyOps.l0
   repeat' first
   | (with_reducible exact ih0 _ _ _ _ _ _ _)
   | (with_reducible exact ih1 _ _ _ _ _ _ _ _)
   | (with_reducible exact spec_l16Bytes.mono _ _ _ _)
   | (with_reducible exact spec_l16Op.mono _ _ _ _ _ _)
   | (with_reducible exact LeO.refl _)
   | (with_reducible exact LeO.none _)
   | (with_reducible refine LeO.ite ?_ ?_)
   | (with_reducible refine LeO.bind ?_ (fun _ => ?_))
   | exact ih0 _ _ _ _ _ _ _
   | exact ih1 _ _ _ _ _ _ _ _
   | exact spec_l16Bytes.mono _ _ _ _
   | exact spec_l16Op.mono _ _ _ _ _ _
   | exact LeO.none _
   | refine LeO.ite ?_ ?_
   | refine LeO.bind ?_ (fun _ => ?_)
theorem spec_DrawApplyOps.mono : ∀ a0 k, LeO (spec_DrawApplyOps.f k a0) (spec_DrawApplyOps.f (k + 1) a0) := by
 intro a0 k
 obtain ⟨ih0, ih1⟩ := spec_DrawApplyOps.mono_l k
 unfold spec_DrawApplyOps.f
 repeat' first
   | (with_reducible exact ih0 _ _ _ _ _ _ _)
   | (with_reducible exact ih1 _ _ _ _ _ _ _ _)
   | (with_reducible exact spec_l16Bytes.mono _ _ _ _)
   | (with_reducible exact spec_l16Op.mono _ _ _ _ _ _)
   | (with_reducible exact LeO.refl _)
   | (with_reducible exact LeO.none _)
   | (with_reducible refine LeO.ite ?_ ?_)
   | (with_reducible refine LeO.bind ?_ (fun _ => ?_))
   | exact ih0 _ _ _ _ _ _ _
   | exact ih1 _ _ _ _ _ _ _ _
   | exact spec_l16Bytes.mono _ _ _ _
   | exact spec_l16Op.mono _ _ _ _ _ _
   | exact LeO.none _
   | refine LeO.ite ?_ ?_
   | refine LeO.bind ?_ (fun _ => ?_)
set_option maxHeartbeats 8000000 in
set_option maxRecDepth 100000 in
theorem spec_DrawApplyOps.calls (k : Nat) (A0 : Option Addr) (c0 : Nat) (l0 : List Int) (r1 : ByteArray) (r2 : Bool) (r3 : List (S60)) (w : World) (hr0 : Kd.C (Kd.int .u8) w A0 l0.length l0) (hc0 : l0.length ≤ c0) (h : spec_DrawApplyOps.f k l0 = some (r1, r2, r3)) :
  Calls Try.prog 51 #[.slice A0 l0.length c0] w fun e w' => ∃ v2_ : Value, e = .returned (.tuple #[.string r1, .bool r2, v2_]) ∧ Kd.R k60 60 w' w.heap.size (fun _ => True) v2_ r3 ∧ Below w.heap.size w w' := by
 have HR0 := am hr0
 have HC0 := am hc0
 clear hr0 hc0
 have HB := am (Below.refl w.heap.size w)
 have H : ((spec_l00From.f l0).bind fun bt254 => ((spec_l00Src_one.f bt254.1 bt254.2.1 bt254.2.2 4).bind fun bt258 => ((spec_l16Bytes.f k bt254.1 bt258.2.1 bt258.2.2).bind fun bt261 => ((some (([] : List (S60)) : List (S60))).bind fun y264 => ((spec_l00Src_pick.f bt254.1 bt261.2.1 bt261.2.2 6).bind fun bt267 => ((spec_l00Src_one.f bt254.1 bt267.2.1 bt267.2.2 15).bind fun bt270 => (if bt270.1 = true then ((spec_l00Src_pick.f bt254.1 bt270.2.1 bt270.2.2 2).bind fun bt273 => (spec_DrawApplyOps.j0 k (!bt258.1) bt261.1 y264 (wrap64 (24 + bt273.1)) bt254.1 bt273.2.1 bt273.2.2)) else (spec_DrawApplyOps.j0 k (!bt258.1) bt261.1 y264 bt267.1 bt254.1 bt270.2.1 bt270.2.2)))))))) = some (r1, r2, r3) := h
 clear h
 replace H := Option.bind_eq_some_iff.mp H
 obtain ⟨⟨t254, t255, t256⟩, A20, H⟩ := H
 replace H : ((spec_l00Src_one.f t254 t255 t256 4).bind fun bt258 => ((spec_l16Bytes.f k t254 bt258.2.1 bt258.2.2).bind fun bt261 => ((some (([] : List (S60)) : List (S60))).bind fun y264 => ((spec_l00Src_pick.f t254 bt261.2.1 bt261.2.2 6).bind fun bt267 => ((spec_l00Src_one.f t254 bt267.2.1 bt267.2.2 15).bind fun bt270 => (if bt270.1 = true then ((spec_l00Src_pick.f t254 bt270.2.1 bt270.2.2 2).bind fun bt273 => (spec_DrawApplyOps.j0 k (!bt258.1) bt261.1 y264 (wrap64 (24 + bt273.1)) t254 bt273.2.1 bt273.2.2)) else (spec_DrawApplyOps.j0 k (!bt258.1) bt261.1 y264 bt267.1 t254 bt270.2.1 bt270.2.2))))))) = some (r1, r2, r3) := H
 have A2 := am A20
 clear A20
 replace H := Option.bind_eq_some_iff.mp H
 obtain ⟨⟨t258, t259, t260⟩, A30, H⟩ := H
 replace H : ((spec_l16Bytes.f k t254 t259 t260).bind fun bt261 => ((some (([] : List (S60)) : List (S60))).bind fun y264 => ((spec_l00Src_pick.f t254 bt261.2.1 bt261.2.2 6).bind fun bt267 => ((spec_l00Src_one.f t254 bt267.2.1 bt267.2.2 15).bind fun bt270 => (if bt270.1 = true then ((spec_l00Src_pick.f t254 bt270.2.1 bt270.2.2 2).bind fun bt273 => (spec_DrawApplyOps.j0 k (!t258) bt261.1 y264 (wrap64 (24 + bt273.1)) t254 bt273.2.1 bt273.2.2)) else (spec_DrawApplyOps.j0 k (!t258) bt261.1 y264 bt267.1 t254 bt270.2.1 bt270.2.2)))))) = some (r1, r2, r3) := H
 have A3 := am A30
 clear A30
 replace H := Option.bind_eq_some_iff.mp H
 obtain ⟨⟨t261, t262, t263⟩, A40, H⟩ := H
 replace H : ((some (([] : List (S60)) : List (S60))).bind fun y264 => ((spec_l00Src_pick.f t254 t262 t263 6).bind fun bt267 => ((spec_l00Src_one.f t254 bt267.2.1 bt267.2.2 15).bind fun bt270 => (if bt270.1 = true then ((spec_l00Src_pick.f t254 bt270.2.1 bt270.2.2 2).bind fun bt273 => (spec_DrawApplyOps.j0 k (!t258) t261 y264 (wrap64 (24 + bt273.1)) t254 bt273.2.1 bt273.2.2)) else (spec_DrawApplyOps.j0 k (!t258) t261 y264 bt267.1 t254 bt270.2.1 bt270.2.2))))) = some (r1, r2, r3) := H
 have A4 := am A40
 clear A40
 obtain ⟨y264, hy264⟩ : ∃ y_ : List (S60), y_ = (([] : List (S60))) := ⟨_, rfl⟩
 replace H : ((spec_l00Src_pick.f t254 t262 t263 6).bind fun bt267 => ((spec_l00Src_one.f t254 bt267.2.1 bt267.2.2 15).bind fun bt270 => (if bt270.1 = true then ((spec_l00Src_pick.f t254 bt270.2.1 bt270.2.2 2).bind fun bt273 => (spec_DrawApplyOps.j0 k (!t258) t261 y264 (wrap64 (24 + bt273.1)) t254 bt273.2.1 bt273.2.2)) else (spec_DrawApplyOps.j0 k (!t258) t261 y264 bt267.1 t254 bt270.2.1 bt270.2.2)))) = some (r1, r2, r3) := by first | (rw [hy264]; with_reducible exact H) | (have H2_ := (Option.bind_some _ _).symm.trans H; rw [hy264]; with_reducible exact H2_) | (have H2_ := (Option.bind_some _ _).symm.trans H; with_reducible exact H2_) | with_reducible exact H | (rw [hy264]; exact H) | exact H
 have Ny264 := am hy264
 clear hy264
 replace H := Option.bind_eq_some_iff.mp H
 obtain ⟨⟨t267, t268, t269⟩, A50, H⟩ := H
 replace H : ((spec_l00Src_one.f t254 t268 t269 15).bind fun bt270 => (if bt270.1 = true then ((spec_l00Src_pick.f t254 bt270.2.1 bt270.2.2 2).bind fun bt273 => (spec_DrawApplyOps.j0 k (!t258) t261 y264 (wrap64 (24 + bt273.1)) t254 bt273.2.1 bt273.2.2)) else (spec_DrawApplyOps.j0 k (!t258) t261 y264 t267 t254 bt270.2.1 bt270.2.2))) = some (r1, r2, r3) := H
 have A5 := am A50
 clear A50
 replace H := Option.bind_eq_some_iff.mp H
 obtain ⟨⟨t270, t271, t272⟩, A60, H⟩ := H
 replace H : (if t270 = true then ((spec_l00Src_pick.f t254 t271 t272 2).bind fun bt273 => (spec_DrawApplyOps.j0 k (!t258) t261 y264 (wrap64 (24 + bt273.1)) t254 bt273.2.1 bt273.2.2)) else (spec_DrawApplyOps.j0 k (!t258) t261 y264 t267 t254 t271 t272)) = some (r1, r2, r3) := H
 have A6 := am A60
 clear A60
 have HC7 := am H
 clear H
 go_enter Try.func51, Try.ntmps51
 go_upto_if 22 with (first | ((with_reducible refine gate_callee (f := 79) rfl ?_); refine goesL_ (some 12) rfl rfl Try.func79 (by kernel_rfl) rfl #[.slice A0 l0.length c0] rfl (by (try simp only [mta, mco, mni]); first | done | rfl | (simp only [lnd, lnt]; rfl)) ?_; (with_reducible refine (spec_l00From.calls _ _ l0 t254 t255 t256 w _ ?side1 ?side2 ?side3 A2.out).mono ?_); (case side1 => repeat (first | (with_reducible first | exact HB.out | apply bal | apply pdn | apply bd1) | exact HB.out)); (case side2 => exact HR0.out); (case side3 => exact HC0.out); rintro e w8 ⟨g257, rfl, hi, hb, hb2⟩; refine ⟨_, rfl, ?_⟩; have n0_ := am (hb); have n1_ := am (hi); clear HB; have HB := n0_; have HI257 := n1_; clear n0_ n1_; (try clear hb); (try clear hb2); (try clear hk); (try clear hi)) | ((with_reducible refine gate_callee (f := 81) rfl ?_); refine goesL_ (some 14) rfl rfl Try.func81 (by kernel_rfl) rfl #[.pointer (some ⟨g257, 0, none⟩), .int .i64 4] rfl (by (try simp only [mta, mco, mni]); first | done | rfl | (simp only [lnd, lnt]; rfl)) ?_; (with_reducible refine (spec_l00Src_one.calls g257 t254 t255 t256 4 t258 t259 t260 w _ ?side1 ?side2 A3.out).mono ?_); (case side1 => repeat (first | (with_reducible first | exact HI257.out | apply IsS139.alloc | apply IsS139.drewN | apply IsS139.drew | apply IsS139.set_1 | apply IsS139.set_2) | exact HI257.out)); (case side2 => repeat (first | (with_reducible first | exact HB.out | apply bal | apply pdn | apply bd1 | refine bst ?_ (IsS139.ge HI257.out)) | exact HB.out)); rintro e w9 ⟨rfl, hi, hb, hk⟩; refine ⟨_, rfl, ?_⟩; have n0_ := am (hb); have n1_ := am (hi); clear HB; clear HI257; have HB := n0_; have HI257 := n1_; clear n0_ n1_; (try clear hb); (try clear hb2); (try clear hk); (try clear hi)) | ((with_reducible refine gate_callee (f := 100) rfl ?_); refine goesL_ (some 17) rfl rfl Try.func100 (by kernel_rfl) rfl #[.pointer (some ⟨g257, 0, none⟩)] rfl (by (try simp only [mta, mco, mni]); first | done | rfl | (simp only [lnd, lnt]; rfl)) ?_; (with_reducible refine (spec_l16Bytes.calls k g257 t254 t259 t260 t261 t262 t263 w _ ?side1 ?side2 A4.out).mono ?_); (case side1 => repeat (first | (with_reducible first | exact HI257.out | apply IsS139.alloc | apply IsS139.drewN | apply IsS139.drew | apply IsS139.set_1 | apply IsS139.set_2) | exact HI257.out)); (case side2 => repeat (first | (with_reducible first | exact HB.out | apply bal | apply pdn | apply bd1 | refine bst ?_ (IsS139.ge HI257.out)) | exact HB.out)); rintro e w10 ⟨rfl, hi, hb, hk⟩; refine ⟨_, rfl, ?_⟩; have n0_ := am (hb); have n1_ := am (hi); clear HB; clear HI257; have HB := n0_; have HI257 := n1_; clear n0_ n1_; (try clear hb); (try clear hb2); (try clear hk); (try clear hi)) | ((with_reducible refine gate_dst (N := 18) rfl ?_); refine Kd.R_lit k60 _ 60 ?hg (N := 18) ?hd (xs := ([] : List (S60))) (inner := []) (ok := fun _ => True) (okp := fun _ => True) ?hr ?hp (fun _ hk => hk) trivial (Below.refl _ _) (Nat.le_refl _) (by simp) ?_; (case hd => rfl); (case hg => rfl); (case hr => first | (go_simp; done) | (go_simp; rfl)); (case hp => exact (Reps.none _ _)); intro v265 w11 ho12 hb hg_ hnew_; clear hg_ hnew_; (first | rw [← Ny264.out] at ho12 | (simp only [Int.reduceToNat] at ho12; rw [← Ny264.out] at ho12)); have n0_ := am (Kd.R_lower ho12 (below_size (by repeat (first | (with_reducible first | exact HB.out | apply bal | apply pdn | apply bd1 | refine bst ?_ (IsS139.ge HI257.out)) | exact HB.out)))); have n1_ := am (IsS139.below (by repeat (first | (with_reducible first | exact HI257.out | apply IsS139.alloc | apply IsS139.drewN | apply IsS139.drew | apply IsS139.set_1 | apply IsS139.set_2) | exact HI257.out)) hb); have n2_ := am (below_step (by repeat (first | (with_reducible first | exact HB.out | apply bal | apply pdn | apply bd1 | refine bst ?_ (IsS139.ge HI257.out)) | exact HB.out)) hb); clear HI257; clear HB; have HO266 := n0_; have HI257 := n1_; have HB := n2_; clear n0_ n1_ n2_; clear hb ho12) | ((with_reducible refine gate_callee (f := 82) rfl ?_); refine goesL_ (some 20) rfl rfl Try.func82 (by kernel_rfl) rfl #[.pointer (some ⟨g257, 0, none⟩), .int .i64 6] rfl (by (try simp only [mta, mco, mni]); first | done | rfl | (simp only [lnd, lnt]; rfl)) ?_; (with_reducible refine (spec_l00Src_pick.calls g257 t254 t262 t263 6 t267 t268 t269 w _ ?side1 ?side2 A5.out).mono ?_); (case side1 => repeat (first | (with_reducible first | exact HI257.out | apply IsS139.alloc | apply IsS139.drewN | apply IsS139.drew | apply IsS139.set_1 | apply IsS139.set_2) | exact HI257.out)); (case side2 => repeat (first | (with_reducible first | exact HB.out | apply bal | apply pdn | apply bd1 | refine bst ?_ (IsS139.ge HI257.out)) | exact HB.out)); rintro e w13 ⟨rfl, hi, hb, hk⟩; refine ⟨_, rfl, ?_⟩; have n0_ := am (Kd.R_mono (Kd.R_keep (IsS139.apart (show IsS139 w _ g257 t254 t262 t263 from by repeat (first | (with_reducible first | exact HI257.out | apply IsS139.alloc | apply IsS139.drewN | apply IsS139.drew | apply IsS139.set_1 | apply IsS139.set_2) | exact HI257.out)) (by (with_reducible repeat (first | apply kra | apply krn | apply krd)); exact HO266.out) (by decide)) hk (fun _ h => h.2)) (fun _ h => h.1)); have n1_ := am (hb); have n2_ := am (hi); clear HO266; clear HB; clear HI257; have HO266 := n0_; have HB := n1_; have HI257 := n2_; clear n0_ n1_ n2_; (try clear hb); (try clear hb2); (try clear hk); (try clear hi)) | ((with_reducible refine gate_callee (f := 81) rfl ?_); refine goesL_ (some 22) rfl rfl Try.func81 (by kernel_rfl) rfl #[.pointer (some ⟨g257, 0, none⟩), .int .i64 15] rfl (by (try simp only [mta, mco, mni]); first | done | rfl | (simp only [lnd, lnt]; rfl)) ?_; (with_reducible refine (spec_l00Src_one.calls g257 t254 t268 t269 15 t270 t271 t272 w _ ?side1 ?side2 A6.out).mono ?_); (case side1 => repeat (first | (with_reducible first | exact HI257.out | apply IsS139.alloc | apply IsS139.drewN | apply IsS139.drew | apply IsS139.set_1 | apply IsS139.set_2) | exact HI257.out)); (case side2 => repeat (first | (with_reducible first | exact HB.out | apply bal | apply pdn | apply bd1 | refine bst ?_ (IsS139.ge HI257.out)) | exact HB.out)); rintro e w14 ⟨rfl, hi, hb, hk⟩; refine ⟨_, rfl, ?_⟩; have n0_ := am (Kd.R_mono (Kd.R_keep (IsS139.apart (show IsS139 w _ g257 t254 t268 t269 from by repeat (first | (with_reducible first | exact HI257.out | apply IsS139.alloc | apply IsS139.drewN | apply IsS139.drew | apply IsS139.set_1 | apply IsS139.set_2) | exact HI257.out)) (by (with_reducible repeat (first | apply kra | apply krn | apply krd)); exact HO266.out) (by decide)) hk (fun _ h => h.2)) (fun _ h => h.1)); have n1_ := am (hb); have n2_ := am (hi); clear HO266; clear HB; clear HI257; have HO266 := n0_; have HB := n1_; have HI257 := n2_; clear n0_ n1_ n2_; (try clear hb); (try clear hb2); (try clear hk); (try clear hi)))
 (try simp only [Act.put, sit, scz, scs])
 go_cut [9] (fun v9 wc => ∃ (kq : Nat) (x9_6 : Int) (x258001_6 : Int) (x258002_6 : Int), v9 = .int .i64 x9_6 ∧ Aside0 (spec_DrawApplyOps.j0 kq (!t258) t261 y264 x9_6 t254 x258001_6 x258002_6 = some (r1, r2, r3)) ∧ Aside0 (kq ≤ k) ∧ Aside0 (Kd.R k60 60 wc w.heap.size (fun _ => True) v265 y264) ∧ Aside0 (IsS139 w wc g257 t254 x258001_6 x258002_6) ∧ Aside0 (Below w.heap.size w wc))
 case first =>
  have H := HC7.out
  clear HC7
  by_cases c15 : t270 = true
  ·subst c15
   have H1 : ((spec_l00Src_pick.f t254 t271 t272 2).bind fun bt273 => (spec_DrawApplyOps.j0 k (!t258) t261 y264 (wrap64 (24 + bt273.1)) t254 bt273.2.1 bt273.2.2)) = some (r1, r2, r3) := by rw [if_pos rfl] at H; exact H
   clear H
   have H := H1
   clear H1
   replace H := Option.bind_eq_some_iff.mp H
   obtain ⟨⟨t273, t274, t275⟩, A160, H⟩ := H
   replace H : (spec_DrawApplyOps.j0 k (!t258) t261 y264 (wrap64 (24 + t273)) t254 t274 t275) = some (r1, r2, r3) := H
   have A16 := am A160
   clear A160
   have H' := am H
   clear H
   go_wp2_with (first | ((with_reducible refine gate_callee (f := 82) rfl ?_); refine goesL_ (some 24) rfl rfl Try.func82 (by kernel_rfl) rfl #[.pointer (some ⟨g257, 0, none⟩), .int .i64 2] rfl (by (try simp only [mta, mco, mni]); first | done | rfl | (simp only [lnd, lnt]; rfl)) ?_; (with_reducible refine (spec_l00Src_pick.calls g257 t254 t271 t272 2 t273 t274 t275 w _ ?side1 ?side2 A16.out).mono ?_); (case side1 => repeat (first | (with_reducible first | exact HI257.out | apply IsS139.alloc | apply IsS139.drewN | apply IsS139.drew | apply IsS139.set_1 | apply IsS139.set_2) | exact HI257.out)); (case side2 => repeat (first | (with_reducible first | exact HB.out | apply bal | apply pdn | apply bd1 | refine bst ?_ (IsS139.ge HI257.out)) | exact HB.out)); rintro e w17 ⟨rfl, hi, hb, hk⟩; refine ⟨_, rfl, ?_⟩; have n0_ := am (Kd.R_mono (Kd.R_keep (IsS139.apart (show IsS139 w _ g257 t254 t271 t272 from by repeat (first | (with_reducible first | exact HI257.out | apply IsS139.alloc | apply IsS139.drewN | apply IsS139.drew | apply IsS139.set_1 | apply IsS139.set_2) | exact HI257.out)) (by (with_reducible repeat (first | apply kra | apply krn | apply krd)); exact HO266.out) (by decide)) hk (fun _ h => h.2)) (fun _ h => h.1)); have n1_ := am (hb); have n2_ := am (hi); clear HO266; clear HB; clear HI257; have HO266 := n0_; have HB := n1_; have HI257 := n2_; clear n0_ n1_ n2_; (try clear hb); (try clear hb2); (try clear hk); (try clear hi)))
   go_meet
   case rel => exact ⟨_, (wrap64 (24 + t273)), (t274), (t275), (by first | rfl | (simp; done) | (simp [*]; done)), H', ⟨by first | omega | exact Nat.le_refl _⟩, ⟨by (with_reducible repeat (first | apply kra | apply krn | apply krd)); exact HO266.out⟩, ⟨by repeat (first | (with_reducible first | exact HI257.out | apply IsS139.alloc | apply IsS139.drewN | apply IsS139.drew | apply IsS139.set_1 | apply IsS139.set_2) | exact HI257.out)⟩, ⟨by repeat (first | (with_reducible first | exact HB.out | apply bal | apply pdn | apply bd1 | refine bst ?_ (IsS139.ge HI257.out)) | exact HB.out)⟩⟩
  ·replace c15 := Bool.eq_false_iff.mpr c15
   subst c15
   have H1 : (spec_DrawApplyOps.j0 k (!t258) t261 y264 t267 t254 t271 t272) = some (r1, r2, r3) := by rw [if_neg (show ¬ (false = true) by decide)] at H; exact H
   clear H
   have H := H1
   clear H1
   have H' := am H
   clear H
   go_wp2
   go_meet
   case rel => exact ⟨_, (t267), (t271), (t272), (by first | rfl | (simp; done) | (simp [*]; done)), H', ⟨by first | omega | exact Nat.le_refl _⟩, ⟨by (with_reducible repeat (first | apply kra | apply krn | apply krd)); exact HO266.out⟩, ⟨by repeat (first | (with_reducible first | exact HI257.out | apply IsS139.alloc | apply IsS139.drewN | apply IsS139.drew | apply IsS139.set_1 | apply IsS139.set_2) | exact HI257.out)⟩, ⟨by repeat (first | (with_reducible first | exact HB.out | apply bal | apply pdn | apply bd1 | refine bst ?_ (IsS139.ge HI257.out)) | exact HB.out)⟩⟩
 case rest =>
  clear HC7
  obtain ⟨kq, x9_6, x258001_6, x258002_6, rfl, HA, HJ6, HO_8, HI257, HB⟩ := hcut
  cases kq with
  | zero => exact absurd HA.out (by simp [spec_DrawApplyOps.j0])
  | succ kj6 =>
   have H := HA.out
   clear HA
   simp only [spec_DrawApplyOps.j0] at H
   have H' := am H
   clear H
   go_wp2
   go_loopg [8, 10] kj6 (fun kq v8 v10 w' => ∃ (x8_2 : List (S60)) (x10_2 : Int) (x258001_2 : Int) (x258002_2 : Int), v10 = .int .i64 x10_2 ∧ Aside0 (spec_DrawApplyOps.l0 kq (!t258) t261 x8_2 x9_6 x10_2 t254 x258001_2 x258002_2 = some (r1, r2, r3)) ∧ Aside0 (kq ≤ kj6) ∧ Aside0 (Kd.R k60 60 w' w.heap.size (fun _ => True) v8 x8_2) ∧ Aside0 (IsS139 w w' g257 t254 x258001_2 x258002_2) ∧ Aside0 (Below w.heap.size w w'))
   case atStart => exact ⟨(y264), (0), (x258001_6), (x258002_6), (by first | rfl | (simp; done) | (simp [*]; done)), H', ⟨Nat.le_refl _⟩, ⟨by (with_reducible repeat (first | apply kra | apply krn | apply krd)); exact HO_8.out⟩, ⟨by repeat (first | (with_reducible first | exact HI257.out | apply IsS139.alloc | apply IsS139.drewN | apply IsS139.drew | apply IsS139.set_1 | apply IsS139.set_2) | exact HI257.out)⟩, ⟨by repeat (first | (with_reducible first | exact HB.out | apply bal | apply pdn | apply bd1 | refine bst ?_ (IsS139.ge HI257.out)) | exact HB.out)⟩⟩
   case round =>
    clear H'
    obtain ⟨x8_2, x10_2, x258001_2, x258002_2, rfl, HA, HK2, HO_8, HI257, HB⟩ := hrel
    cases gk with
    | zero => exact absurd HA.out (by simp [spec_DrawApplyOps.l0])
    | succ k2 =>
     have H := HA.out
     clear HA
     simp only [spec_DrawApplyOps.l0] at H
     by_cases c18 : x10_2 < x9_6
     ·rw [if_pos c18] at H
      have c18b0 : decide (x10_2 < x9_6) = true := decide_eq_true c18
      clear c18
      replace H := Option.bind_eq_some_iff.mp H
      obtain ⟨⟨t276, t277⟩, A190, H⟩ := H
      replace H : ((spec_l16Op.f k2 t254 x258001_2 x258002_2 t276 t277).bind fun bt278 => (if x8_2.length < 4398046511104 then (spec_DrawApplyOps.l0 k2 (!t258) t261 (x8_2 ++ [(⟨bt278.1, bt278.2.1, bt278.2.2.1⟩ : S60)]) x9_6 (wrap64 (x10_2 + 1)) t254 bt278.2.2.2.1 bt278.2.2.2.2) else (none))) = some (r1, r2, r3) := H
      have A19 := am A190
      clear A190
      replace H := Option.bind_eq_some_iff.mp H
      obtain ⟨⟨t278, t279, t280, t281, t282⟩, A200, H⟩ := H
      replace H : (if x8_2.length < 4398046511104 then (spec_DrawApplyOps.l0 k2 (!t258) t261 (x8_2 ++ [(⟨t278, t279, t280⟩ : S60)]) x9_6 (wrap64 (x10_2 + 1)) t254 t281 t282) else (none)) = some (r1, r2, r3) := H
      have A20 := am A200
      clear A200
      by_cases c21 : x8_2.length < 4398046511104
      ·rw [if_pos c21] at H
       have LMc21 := am c21
       clear c21
       obtain ⟨y283, hy283⟩ : ∃ y_ : List (S60), y_ = (x8_2 ++ [(⟨t278, t279, t280⟩ : S60)]) := ⟨_, rfl⟩
       replace H : (spec_DrawApplyOps.l0 k2 (!t258) t261 y283 x9_6 (wrap64 (x10_2 + 1)) t254 t281 t282) = some (r1, r2, r3) := by first | (rw [hy283]; with_reducible exact H) | (have H2_ := (Option.bind_some _ _).symm.trans H; rw [hy283]; with_reducible exact H2_) | (have H2_ := (Option.bind_some _ _).symm.trans H; with_reducible exact H2_) | with_reducible exact H | (rw [hy283]; exact H) | exact H
       have Ny283 := am hy283
       clear hy283
       have H' := am H
       clear H
       go_wp2_with (first | ((with_reducible refine gate_callee (f := 83) rfl ?_); refine goesL_ (some 33) rfl rfl Try.func83 (by kernel_rfl) rfl #[] rfl (by (try simp only [mta, mco, mni]); first | done | rfl | (simp only [lnd, lnt]; rfl)) ?_; (with_reducible refine (spec_l16Plain.calls  t276 t277 _ A19.out).mono ?_); rintro e w22 ⟨rfl, hb⟩; refine ⟨_, rfl, ?_⟩; have n0_ := am (krb (by (with_reducible repeat (first | apply kra | apply krn | apply krd)); exact HO_8.out) hb); have n1_ := am (IsS139.below (by repeat (first | (with_reducible first | exact HI257.out | apply IsS139.alloc | apply IsS139.drewN | apply IsS139.drew | apply IsS139.set_1 | apply IsS139.set_2) | exact HI257.out)) hb); have n2_ := am (below_step (by repeat (first | (with_reducible first | exact HB.out | apply bal | apply pdn | apply bd1 | refine bst ?_ (IsS139.ge HI257.out)) | exact HB.out)) hb); clear HO_8; clear HI257; clear HB; have HO_8 := n0_; have HI257 := n1_; have HB := n2_; clear n0_ n1_ n2_; (try clear hb); (try clear hb2); (try clear hk); (try clear hi)) | ((with_reducible refine gate_callee (f := 99) rfl ?_); refine goesL_ (some 34) rfl rfl Try.func99 (by kernel_rfl) rfl #[.pointer (some ⟨g257, 0, none⟩), .agg #[.int .i64 t276, .int .i64 t277]] rfl (by (try simp only [mta, mco, mni]); first | done | rfl | (simp only [lnd, lnt]; rfl)) ?_; (with_reducible refine (spec_l16Op.calls k2 g257 t254 x258001_2 x258002_2 t276 t277 t278 t279 t280 t281 t282 w _ ?side1 ?side2 A20.out).mono ?_); (case side1 => repeat (first | (with_reducible first | exact HI257.out | apply IsS139.alloc | apply IsS139.drewN | apply IsS139.drew | apply IsS139.set_1 | apply IsS139.set_2) | exact HI257.out)); (case side2 => repeat (first | (with_reducible first | exact HB.out | apply bal | apply pdn | apply bd1 | refine bst ?_ (IsS139.ge HI257.out)) | exact HB.out)); rintro e w23 ⟨rfl, hi, hb, hk⟩; refine ⟨_, rfl, ?_⟩; have n0_ := am (Kd.R_mono (Kd.R_keep (IsS139.apart (show IsS139 w _ g257 t254 x258001_2 x258002_2 from by repeat (first | (with_reducible first | exact HI257.out | apply IsS139.alloc | apply IsS139.drewN | apply IsS139.drew | apply IsS139.set_1 | apply IsS139.set_2) | exact HI257.out)) (by (with_reducible repeat (first | apply kra | apply krn | apply krd)); exact HO_8.out) (by decide)) hk (fun _ h => h.2)) (fun _ h => h.1)); have n1_ := am (hb); have n2_ := am (hi); clear HO_8; clear HB; clear HI257; have HO_8 := n0_; have HB := n1_; have HI257 := n2_; clear n0_ n1_ n2_; (try clear hb); (try clear hb2); (try clear hk); (try clear hi)) | ((with_reducible refine gate_builtin (b := .append) (xs := #[.tmp 31, .tmp 35]) rfl ?_); at_builtin; refine Kd.R_append k60 (w0 := w) w.heap.size rfl (.tmp 31) (.tmp 35) 73 60 (.agg #[(.int .i64 0), (.int .i64 0), (.string ⟨#[]⟩)]) 32 rfl Try.underlying73 info60 rfl (by decide) (by omega) u8 x8_2 (⟨t278, t279, t280⟩ : S60) [.int .i64 t278, .int .i64 t279, .string t280] (fun _ => True) (fun _ => False) rfl rfl ?aP (fun _ hk => hk.elim) ?aF ?aO ?aB ?aS ?aL ?_; (case aP => exact k60_mkM _ _ _ (⟨t278, t279, t280⟩ : S60)); (case aB => exact (by repeat (first | (with_reducible first | exact HB.out | apply bal | apply pdn | apply bd1 | refine bst ?_ (IsS139.ge HI257.out)) | exact HB.out))); (case aF => exact (fun _ _ => trivial)); (case aO => exact (by (with_reducible repeat (first | apply kra | apply krn | apply krd)); exact HO_8.out)); (case aS => exact (below_size (by repeat (first | (with_reducible first | exact HB.out | apply bal | apply pdn | apply bd1 | refine bst ?_ (IsS139.ge HI257.out)) | exact HB.out)))); (case aL => have := LMc21.out; omega); intro v284 w24 ho hb hg hat; rw [← Ny283.out] at ho; have n0_ := am (IsS139.grown (by repeat (first | (with_reducible first | exact HI257.out | apply IsS139.alloc | apply IsS139.drewN | apply IsS139.drew | apply IsS139.set_1 | apply IsS139.set_2) | exact HI257.out)) hg (IsS139.own_ne HI257.out HO_8.out (by decide))); have n1_ := am (hb); have n2_ := am (ho); clear HI257; clear HB; clear HO_8; have HI257 := n0_; have HB := n1_; have HO285 := n2_; clear n0_ n1_ n2_; clear ho hb hg hat))
       go_roundg k2
       case measure => have := HJ6.out; have := HK2.out; omega
       case rel => exact ⟨(y283), (wrap64 (x10_2 + 1)), (t281), (t282), (by first | rfl | (simp; done) | (simp [*]; done)), H', ⟨by have := HJ6.out; have := HK2.out; omega⟩, ⟨by (with_reducible repeat (first | apply kra | apply krn | apply krd)); exact HO285.out⟩, ⟨by repeat (first | (with_reducible first | exact HI257.out | apply IsS139.alloc | apply IsS139.drewN | apply IsS139.drew | apply IsS139.set_1 | apply IsS139.set_2) | exact HI257.out)⟩, ⟨by repeat (first | (with_reducible first | exact HB.out | apply bal | apply pdn | apply bd1 | refine bst ?_ (IsS139.ge HI257.out)) | exact HB.out)⟩⟩
      ·rw [if_neg c21] at H
       exact absurd H (by simp)
     ·rw [if_neg c18] at H
      have c18b0 : decide (x10_2 < x9_6) = false := decide_eq_false c18
      clear c18
      simp only [Option.some.injEq, Prod.mk.injEq] at H
      obtain ⟨rfl, rfl, rfl⟩ := H
      go_wp2
      go_ret3
      exact ⟨_, by first | rfl | (simp [errW_none, errW_some] <;> rfl) | (simp [*, errW_none, errW_some] <;> rfl), by (with_reducible repeat (first | apply kra | apply krn | apply krd)); exact HO_8.out, by repeat (first | (with_reducible first | exact HB.out | apply bal | apply pdn | apply bd1 | refine bst ?_ (IsS139.ge HI257.out)) | exact HB.out)⟩

/-! ### spec_DrawPutOp: function 52 -/
def spec_DrawPutOp.f (k : Nat) (l0 : List Int) : Option (Int × Int × ByteArray) := (spec_l00From.f l0).bind fun bt287 => ((spec_l16Plain.f).bind fun bt291 => ((spec_l16Op.f k bt287.1 bt287.2.1 bt287.2.2 bt291.1 bt291.2).bind fun bt293 => (some (bt293.1, bt293.2.1, bt293.2.2.1))))
theorem spec_DrawPutOp.mono : ∀ a0 k, LeO (spec_DrawPutOp.f k a0) (spec_DrawPutOp.f (k + 1) a0) := by
 intro a0 k
 unfold spec_DrawPutOp.f
 repeat' first
   | (with_reducible exact spec_l16Op.mono _ _ _ _ _ _)
   | (with_reducible exact LeO.refl _)
   | (with_reducible exact LeO.none _)
   | (with_reducible refine LeO.ite ?_ ?_)
   | (with_reducible refine LeO.bind ?_ (fun _ => ?_))
   | exact spec_l16Op.mono _ _ _ _ _ _
   | exact LeO.none _
   | refine LeO.ite ?_ ?_
   | refine LeO.bind ?_ (fun _ => ?_)
set_option maxHeartbeats 8000000 in
set_option maxRecDepth 100000 in
theorem spec_DrawPutOp.calls (k : Nat) (A0 : Option Addr) (c0 : Nat) (l0 : List Int) (r1 : Int) (r2 : Int) (r3 : ByteArray) (w : World) (hr0 : Kd.C (Kd.int .u8) w A0 l0.length l0) (hc0 : l0.length ≤ c0) (h : spec_DrawPutOp.f k l0 = some (r1, r2, r3)) :
  Calls Try.prog 52 #[.slice A0 l0.length c0] w fun e w' => e = .returned (.agg #[.int .i64 r1, .int .i64 r2, .string r3]) ∧ Below w.heap.size w w' := by
 have hu60 := Try.underlying60
 have HR0 := am hr0
 have HC0 := am hc0
 clear hr0 hc0
 have HB := am (Below.refl w.heap.size w)
 have H : ((spec_l00From.f l0).bind fun bt287 => ((spec_l16Plain.f).bind fun bt291 => ((spec_l16Op.f k bt287.1 bt287.2.1 bt287.2.2 bt291.1 bt291.2).bind fun bt293 => (some (bt293.1, bt293.2.1, bt293.2.2.1))))) = some (r1, r2, r3) := h
 clear h
 replace H := Option.bind_eq_some_iff.mp H
 obtain ⟨⟨t287, t288, t289⟩, A20, H⟩ := H
 replace H : ((spec_l16Plain.f).bind fun bt291 => ((spec_l16Op.f k t287 t288 t289 bt291.1 bt291.2).bind fun bt293 => (some (bt293.1, bt293.2.1, bt293.2.2.1)))) = some (r1, r2, r3) := H
 have A2 := am A20
 clear A20
 replace H := Option.bind_eq_some_iff.mp H
 obtain ⟨⟨t291, t292⟩, A30, H⟩ := H
 replace H : ((spec_l16Op.f k t287 t288 t289 t291 t292).bind fun bt293 => (some (bt293.1, bt293.2.1, bt293.2.2.1))) = some (r1, r2, r3) := H
 have A3 := am A30
 clear A30
 replace H := Option.bind_eq_some_iff.mp H
 obtain ⟨⟨t293, t294, t295, t296, t297⟩, A40, H⟩ := H
 replace H : (some (t293, t294, t295)) = some (r1, r2, r3) := H
 have A4 := am A40
 clear A40
 simp only [Option.some.injEq, Prod.mk.injEq] at H
 obtain ⟨rfl, rfl, rfl⟩ := H
 go_enter Try.func52, Try.ntmps52
 go_wp2_with (first | ((with_reducible refine gate_dst (N := 2) rfl ?_); refine box_event ?hg (N := 2) ?hd (cs := #[.int .i64 0, .int .i64 0, .string (⟨#[]⟩ : ByteArray)]) (t := 60) ?hr ?_; (case hd => rfl); (case hg => rfl); (case hr => first | (go_simp; done) | (go_simp; rfl)); intro gb286 hg w5 hbox hb; have n0_ := am (below_step (by repeat (first | (with_reducible first | exact HB.out | apply bal | apply pdn | apply bd1) | exact HB.out)) hb); have n1_ := am (hbox); have n2_ := am ((by rw [hg]; exact (below_size (by repeat (first | (with_reducible first | exact HB.out | apply bal | apply pdn | apply bd1) | exact HB.out))) : w.heap.size ≤ gb286)); have n3_ := am ((by rw [hg]; exact (below_size (by repeat (first | (with_reducible first | exact HB.out | apply bal | apply pdn | apply bd1) | exact HB.out))) : w.heap.size ≤ gb286)); clear HB; have HB := n0_; have BK286 := n1_; have GW286 := n2_; have GE286 := n3_; clear n0_ n1_ n2_ n3_; clear hb hbox hg) | ((with_reducible refine gate_callee (f := 79) rfl ?_); refine goesL_ (some 4) rfl rfl Try.func79 (by kernel_rfl) rfl #[.slice A0 l0.length c0] rfl (by (try simp only [mta, mco, mni]); first | done | rfl | (simp only [lnd, lnt]; rfl)) ?_; (with_reducible refine (spec_l00From.calls _ _ l0 t287 t288 t289 w _ ?side1 ?side2 ?side3 A2.out).mono ?_); (case side1 => repeat (first | (with_reducible first | exact HB.out | apply bal | apply pdn | apply bd1 | refine bst ?_ GE286.out) | exact HB.out)); (case side2 => exact HR0.out); (case side3 => exact HC0.out); rintro e w6 ⟨g290, rfl, hi, hb, hb2⟩; refine ⟨_, rfl, ?_⟩; have n0_ := am (kbb (g := gb286) (o := .cells #[.int .i64 0, .int .i64 0, .string (⟨#[]⟩ : ByteArray)] 60 (0, 0)) (by (with_reducible repeat (first | apply kdn | apply kdr | apply kal)); exact BK286.out) hb2); have n1_ := am (hb); have n2_ := am (hi); have n3_ := am (IsS139.ne_blk hi (kbb (g := gb286) (o := .cells #[.int .i64 0, .int .i64 0, .string (⟨#[]⟩ : ByteArray)] 60 (0, 0)) (by (with_reducible repeat (first | apply kdn | apply kdr | apply kal)); exact BK286.out) hb2) (by decide)); have n4_ := am (Ne.symm (IsS139.ne_blk hi (kbb (g := gb286) (o := .cells #[.int .i64 0, .int .i64 0, .string (⟨#[]⟩ : ByteArray)] 60 (0, 0)) (by (with_reducible repeat (first | apply kdn | apply kdr | apply kal)); exact BK286.out) hb2) (by decide))); clear BK286; clear HB; have BK286 := n0_; have HB := n1_; have HI290 := n2_; have NB290_286 := n3_; have NB286_290 := n4_; clear n0_ n1_ n2_ n3_ n4_; (try clear hb); (try clear hb2); (try clear hk); (try clear hi)) | ((with_reducible refine gate_callee (f := 83) rfl ?_); refine goesL_ (some 5) rfl rfl Try.func83 (by kernel_rfl) rfl #[] rfl (by (try simp only [mta, mco, mni]); first | done | rfl | (simp only [lnd, lnt]; rfl)) ?_; (with_reducible refine (spec_l16Plain.calls  t291 t292 _ A3.out).mono ?_); rintro e w7 ⟨rfl, hb⟩; refine ⟨_, rfl, ?_⟩; have n0_ := am (kbb (g := gb286) (o := .cells #[.int .i64 0, .int .i64 0, .string (⟨#[]⟩ : ByteArray)] 60 (0, 0)) (by (with_reducible repeat (first | apply kdn | apply kdr | apply kal)); exact BK286.out) hb); have n1_ := am (IsS139.below (by repeat (first | (with_reducible first | exact HI290.out | apply IsS139.alloc | apply IsS139.drewN | apply IsS139.drew | apply IsS139.set_1 | apply IsS139.set_2 | refine IsS139.far ?_ NB290_286.out _) | exact HI290.out)) hb); have n2_ := am (below_step (by repeat (first | (with_reducible first | exact HB.out | apply bal | apply pdn | apply bd1 | refine bst ?_ (IsS139.ge HI290.out) | refine bst ?_ GE286.out) | exact HB.out)) hb); clear BK286; clear HI290; clear HB; have BK286 := n0_; have HI290 := n1_; have HB := n2_; clear n0_ n1_ n2_; (try clear hb); (try clear hb2); (try clear hk); (try clear hi)) | ((with_reducible refine gate_callee (f := 99) rfl ?_); refine goesL_ (some 6) rfl rfl Try.func99 (by kernel_rfl) rfl #[.pointer (some ⟨g290, 0, none⟩), .agg #[.int .i64 t291, .int .i64 t292]] rfl (by (try simp only [mta, mco, mni]); first | done | rfl | (simp only [lnd, lnt]; rfl)) ?_; (with_reducible refine (spec_l16Op.calls k g290 t287 t288 t289 t291 t292 t293 t294 t295 t296 t297 w _ ?side1 ?side2 A4.out).mono ?_); (case side1 => repeat (first | (with_reducible first | exact HI290.out | apply IsS139.alloc | apply IsS139.drewN | apply IsS139.drew | apply IsS139.set_1 | apply IsS139.set_2 | refine IsS139.far ?_ NB290_286.out _) | exact HI290.out)); (case side2 => repeat (first | (with_reducible first | exact HB.out | apply bal | apply pdn | apply bd1 | refine bst ?_ (IsS139.ge HI290.out) | refine bst ?_ GE286.out) | exact HB.out)); rintro e w8 ⟨rfl, hi, hb, hk⟩; refine ⟨_, rfl, ?_⟩; have n0_ := am (KeepBut.blk hk (g' := gb286) (o := .cells #[.int .i64 0, .int .i64 0, .string (⟨#[]⟩ : ByteArray)] 60 (0, 0)) (by (with_reducible repeat (first | apply kdn | apply kdr | apply kal)); exact BK286.out) NB286_290.out (by simp)); have n1_ := am (hb); have n2_ := am (hi); clear BK286; clear HB; clear HI290; have BK286 := n0_; have HB := n1_; have HI290 := n2_; clear n0_ n1_ n2_; (try clear hb); (try clear hb2); (try clear hk); (try clear hi); have hnb9 := NB286_290.out; have hnc9 := NB290_286.out; have hcz10_0 : w8.cell? ⟨gb286, 0, none⟩ = some (.int .i64 0) := (kce BK286.out 0).trans rfl; have hcz10_1 : w8.cell? ⟨gb286, 1, none⟩ = some (.int .i64 0) := (kce BK286.out 1).trans rfl; have hcz10_2 : w8.cell? ⟨gb286, 2, none⟩ = some (.string (⟨#[]⟩ : ByteArray)) := (kce BK286.out 2).trans rfl; have hfz10_0 := kfr BK286.out 0; have hfz10_1 := kfr BK286.out 1; have hfz10_2 := kfr BK286.out 2))
 refine bodyPost_ret (results_cell_row rfl _ _ gb286 60 #[.int .i64 t293, .int .i64 t294, .string t295] (0, 0) _ rfl (by (with_reducible repeat (first | apply kdn | apply kdr | apply kal)); refine blk_put (cs := #[.int .i64 t293, .int .i64 t294, .string (⟨#[]⟩ : ByteArray)]) ?_ 2 _ rfl; (with_reducible repeat (first | apply kdn | apply kdr | apply kal)); refine blk_put (cs := #[.int .i64 t293, .int .i64 0, .string (⟨#[]⟩ : ByteArray)]) ?_ 1 _ rfl; (with_reducible repeat (first | apply kdn | apply kdr | apply kal)); refine blk_put (cs := #[.int .i64 0, .int .i64 0, .string (⟨#[]⟩ : ByteArray)]) ?_ 0 _ rfl; (with_reducible repeat (first | apply kdn | apply kdr | apply kal)); exact BK286.out) Try.underlying60 rfl (by kernel_rfl)) rfl ?_
 exact ⟨by first | rfl | (simp [errW_none, errW_some] <;> rfl) | (simp [*, errW_none, errW_some] <;> rfl), by repeat (first | (with_reducible first | exact HB.out | apply bal | apply pdn | apply bd1 | refine bst ?_ (IsS139.ge HI290.out) | refine bst ?_ GE286.out) | exact HB.out)⟩

/-! ### laws_b10At: function 54 -/
def laws_b10At.f (l0 : List Int) (a1 : Int) (a2 : Int) : Option (Int) := if a2 ≤ 1 then (some 0) else (if a1 < (l0.length : Int) then (if 0 ≤ a1 then (if a2 = 0 then (none) else (some (Int.tmod (wrap64 (rd l0 a1)) a2))) else (none)) else (if a2 = 0 then (none) else (some (Int.tmod (wrap64 ((wrap64 (a1 * 37)) + 11)) a2))))
set_option maxHeartbeats 8000000 in
set_option maxRecDepth 100000 in
theorem laws_b10At.calls (A0 : Option Addr) (c0 : Nat) (l0 : List Int) (a1 : Int) (a2 : Int) (r : Int) (w : World) (hr0 : Kd.C (Kd.int .u8) w A0 l0.length l0) (hc0 : l0.length ≤ c0) (h : laws_b10At.f l0 a1 a2 = some r) :
  Calls Try.prog 54 #[.slice A0 l0.length c0, .int .i64 a1, .int .i64 a2] w fun e w' => e = .returned (.int .i64 r) ∧ Drawn0 w w' := by
 have HR0 := am hr0
 have HC0 := am hc0
 clear hr0 hc0
 have H : (if a2 ≤ 1 then (some 0) else (if a1 < (l0.length : Int) then (if 0 ≤ a1 then (if a2 = 0 then (none) else (some (Int.tmod (wrap64 (rd l0 a1)) a2))) else (none)) else (if a2 = 0 then (none) else (some (Int.tmod (wrap64 ((wrap64 (a1 * 37)) + 11)) a2))))) = some r := h
 clear h
 by_cases c4 : a2 ≤ 1
 ·rw [if_pos c4] at H
  have c4b0 : decide (a2 ≤ 1) = true := decide_eq_true c4
  clear c4
  obtain rfl := Option.some.inj H
  go_enter Try.func54, Try.ntmps54
  go_wp2
  go_ret
  exact ⟨by first | rfl | (simp; done) | (simp [*]; done), by repeat (first | exact Drawn0.refl _ | apply Drawn0.step)⟩
 ·rw [if_neg c4] at H
  have c4b0 : decide (a2 ≤ 1) = false := decide_eq_false c4
  clear c4
  by_cases c5 : a1 < (l0.length : Int)
  ·rw [if_pos c5] at H
   have c5b0 : decide (a1 < (l0.length : Int)) = true := decide_eq_true c5
   clear c5
   by_cases c6 : 0 ≤ a1
   ·rw [if_pos c6] at H
    have c6b0 : decide (0 ≤ a1) = true := decide_eq_true c6
    clear c6
    by_cases c7 : a2 = 0
    ·rw [if_pos c7] at H
     exact absurd H (by simp)
    ·rw [if_neg c7] at H
     have c7b0 : (a2 == 0) = false := beq_eq_false_iff_ne.mpr c7
     have c7b1 : (a2 != 0) = true := bne_iff_ne.mpr c7
     obtain rfl := Option.some.inj H
     have p298 : 0 ≤ (a1 : Int) := of_decide_eq_true (by first | (with_reducible assumption) | assumption)
     have q298 : a1 < (l0.length : Int) := of_decide_eq_true (by first | (with_reducible assumption) | assumption)
     obtain ⟨ad298, e298, hx298_0⟩ := Kd.at_int HR0.out a1 p298 q298
     cases e298
     replace p298 := eq_true p298
     replace q298 := eq_true q298
     go_enter Try.func54, Try.ntmps54
     go_wp2
     go_ret
     exact ⟨by first | rfl | (simp; done) | (simp [*]; done), by repeat (first | exact Drawn0.refl _ | apply Drawn0.step)⟩
   ·rw [if_neg c6] at H
    exact absurd H (by simp)
  ·rw [if_neg c5] at H
   have c5b0 : decide (a1 < (l0.length : Int)) = false := decide_eq_false c5
   clear c5
   by_cases c8 : a2 = 0
   ·rw [if_pos c8] at H
    exact absurd H (by simp)
   ·rw [if_neg c8] at H
    have c8b0 : (a2 == 0) = false := beq_eq_false_iff_ne.mpr c8
    have c8b1 : (a2 != 0) = true := bne_iff_ne.mpr c8
    obtain rfl := Option.some.inj H
    go_enter Try.func54, Try.ntmps54
    go_wp2
    go_ret
    exact ⟨by first | rfl | (simp; done) | (simp [*]; done), by repeat (first | exact Drawn0.refl _ | apply Drawn0.step)⟩

end Go.Proofs.Ythphhklbliambaa.MFnOps
