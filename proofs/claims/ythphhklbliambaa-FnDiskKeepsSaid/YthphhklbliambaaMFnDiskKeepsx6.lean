-- Written by a program of this session (wip/tools/myprint.py) over the kit's print: it is not the kit's print.
import Derived.Test.YthphhklbliambaaExtra
import Derived.Test.YthphhklbliambaaMFnDiskKeepsx0
import Derived.Test.YthphhklbliambaaMFnDiskKeepsx4
import Derived.Test.YthphhklbliambaaMFnDiskKeepsx5
namespace Go.Proofs.Ythphhklbliambaa.MFnDiskKeeps
open Go.RowKit Go.Proofs.YthphhklbliambaaW.PrintWords Go.Proofs.YthphhklbliambaaW.PrintLast Go.Proofs.YthphhklbliambaaW.PrintMore
open List renaming setIfInBounds_toArray → sit, set_cons_zero → scz, set_cons_succ → scs, map_toArray → mta, map_cons → mco, map_nil → mni, length_drop → lnd, length_take → lnt
attribute [local go_sem] max2_int min2_int max_two min_two max_three min_three max_four min_four   -- for this text's walks alone
set_option linter.unusedVariables false
set_option linter.unusedSimpArgs false

/-! ### spec_l00Src_one: function 81 -/
def spec_l00Src_one.f (s0_0 : List Int) (s0_1 : Int) (s0_2 : Int) (a1 : Int) : Option (Bool × Int × Int) := (spec_l00Src_pick.f s0_0 s0_1 s0_2 a1).bind fun bt236 => (some ((bt236.1 == 0), bt236.2.1, bt236.2.2))
set_option maxHeartbeats 8000000 in
set_option maxRecDepth 100000 in
theorem spec_l00Src_one.calls (g : Nat) (s0_0 : List Int) (s0_1 : Int) (s0_2 : Int) (a1 : Int) (r1 : Bool) (r2 : Int) (r3 : Int) (w0 w : World) (hI : IsS139 w0 w g s0_0 s0_1 s0_2) (hB : Below w0.heap.size w0 w) (h : spec_l00Src_one.f s0_0 s0_1 s0_2 a1 = some (r1, r2, r3)) :
  Calls Try.prog 81 #[.pointer (some ⟨g, 0, none⟩), .int .i64 a1] w fun e w' => e = .returned (.bool r1) ∧ IsS139 w0 w' g s0_0 r2 r3 ∧ Below w0.heap.size w0 w' ∧ KeepBut w w' g none := by
 have HI0 := am hI
 have HK := am (KeepBut.refl w g none)
 have HL := am hB.size
 clear hI
 have HW0 := am hB.size
 have HB := am hB
 clear hB
 have H : ((spec_l00Src_pick.f s0_0 s0_1 s0_2 a1).bind fun bt236 => (some ((bt236.1 == 0), bt236.2.1, bt236.2.2))) = some (r1, r2, r3) := h
 clear h
 replace H := Option.bind_eq_some_iff.mp H
 obtain ⟨⟨t236, t237, t238⟩, A30, H⟩ := H
 replace H : (some ((t236 == 0), t237, t238)) = some (r1, r2, r3) := H
 have A3 := am A30
 clear A30
 simp only [Option.some.injEq, Prod.mk.injEq] at H
 obtain ⟨rfl, rfl, rfl⟩ := H
 go_enter Try.func81, Try.ntmps81
 go_wp2_with (first | ((with_reducible refine gate_callee (f := 82) rfl ?_); refine goesL_ (some 7) rfl rfl Try.func82 (by kernel_rfl) rfl #[.pointer (some ⟨g, 0, none⟩), .int .i64 a1] rfl (by (try simp only [mta, mco, mni]); first | done | rfl | (simp only [lnd, lnt]; rfl)) ?_; (with_reducible refine (spec_l00Src_pick.calls g s0_0 s0_1 s0_2 a1 t236 t237 t238 w0 _ ?side1 ?side2 A3.out).mono ?_); (case side1 => repeat (first | (with_reducible first | exact HI0.out | apply IsS139.alloc | apply IsS139.drewN | apply IsS139.drew | apply IsS139.set_1 | apply IsS139.set_2) | exact HI0.out)); (case side2 => repeat (first | (with_reducible first | exact HB.out | apply bal | apply pdn | apply bd1 | refine bst ?_ (IsS139.ge HI0.out)) | exact HB.out)); rintro e w4 ⟨rfl, hi, hb, hk⟩; refine ⟨_, rfl, ?_⟩; have n0_ := am (KeepBut.trans (by repeat (first | (with_reducible first | exact HK.out | apply KeepBut.set_ | apply keep_drewN | apply keep_drew | apply keep_alloc) | exact HK.out)) hk (.inl rfl)); have n1_ := am (hb); have n2_ := am (hi); clear HK; clear HB; clear HI0; have HK := n0_; have HB := n1_; have HI0 := n2_; clear n0_ n1_ n2_; (try clear hb); (try clear hb2); (try clear hk); (try clear hi)))
 go_ret
 exact ⟨by first | rfl | (simp [errW_none, errW_some] <;> rfl) | (simp [*, errW_none, errW_some] <;> rfl), by repeat (first | (with_reducible first | exact HI0.out | apply IsS139.alloc | apply IsS139.drewN | apply IsS139.drew | apply IsS139.set_1 | apply IsS139.set_2) | exact HI0.out), by repeat (first | (with_reducible first | exact HB.out | apply bal | apply pdn | apply bd1 | refine bst ?_ (IsS139.ge HI0.out)) | exact HB.out), by repeat (first | (with_reducible first | exact HK.out | apply KeepBut.set_ | apply keep_drewN | apply keep_drew | apply keep_alloc) | exact HK.out)⟩

/-! ### spec_DrawPowerLoss: function 34 -/
mutual
def spec_DrawPowerLoss.l0 : Nat → List Int → Int → List Int → Int → Int → List ByteArray → List (S55) → Option (List ByteArray × (List (S55)) × List Int × Int)
 | 0, _, _, _, _, _, _, _ => none
 | k + 1, x7, x8, x244000, x244001, x244002, x253000, x253001 => if x8 < (x253001.length : Int) then (spec_DrawPowerLoss.j1 k x7 x8 (decide (x8 < 8)) x244000 x244001 x244002 x253000 x253001) else (spec_DrawPowerLoss.j1 k x7 x8 false x244000 x244001 x244002 x253000 x253001)
def spec_DrawPowerLoss.j1 : Nat → List Int → Int → Bool → List Int → Int → Int → List ByteArray → List (S55) → Option (List ByteArray × (List (S55)) × List Int × Int)
 | 0, _, _, _, _, _, _, _, _ => none
 | k + 1, x7, x8, x23, x244000, x244001, x244002, x253000, x253001 => if x23 = true then ((spec_l00Src_one.f x244000 x244001 x244002 2).bind fun bt256 => (if bt256.1 = true then (if x7.length < 17592186044416 then (spec_DrawPowerLoss.l0 k (x7 ++ [x8]) (wrap64 (x8 + 1)) x244000 bt256.2.1 bt256.2.2 x253000 x253001) else (none)) else (spec_DrawPowerLoss.l0 k x7 (wrap64 (x8 + 1)) x244000 bt256.2.1 bt256.2.2 x253000 x253001))) else ((spec_l00Src_one.f x244000 x244001 x244002 12).bind fun bt262 => (if bt262.1 = true then ((spec_l00Src_pick.f x244000 bt262.2.1 bt262.2.2 6).bind fun bt265 => (if x7.length < 17592186044416 then (spec_DrawPowerLoss.j2 k (x7 ++ [bt265.1]) x244000 bt265.2.1 bt265.2.2 x253000 x253001) else (none))) else (spec_DrawPowerLoss.j2 k x7 x244000 bt262.2.1 bt262.2.2 x253000 x253001)))
def spec_DrawPowerLoss.j2 : Nat → List Int → List Int → Int → Int → List ByteArray → List (S55) → Option (List ByteArray × (List (S55)) × List Int × Int)
 | 0, _, _, _, _, _, _ => none
 | k + 1, x7, x244000, x244001, x244002, x253000, x253001 => (spec_l00Src_one.f x244000 x244001 x244002 2).bind fun bt271 => (if bt271.1 = true then ((spec_l00Src_pick.f x244000 bt271.2.1 bt271.2.2 66).bind fun bt274 => (some (x253000, x253001, x7, bt274.1))) else (some (x253000, x253001, x7, (-1))))
end
def spec_DrawPowerLoss.f (k : Nat) (l0 : List Int) : Option (List ByteArray × (List (S55)) × List Int × Int) := (spec_l00From.f l0).bind fun bt240 => ((spec_l14Disk.f k bt240.1 bt240.2.1 bt240.2.2).bind fun bt244 => (spec_DrawPowerLoss.l0 k (([] : List Int)) 0 bt240.1 bt244.2.2.1 bt244.2.2.2 bt244.1 bt244.2.1))
theorem spec_DrawPowerLoss.mono_l : ∀ k, (∀ y0 y1 y2 y3 y4 y5 y6, LeO (spec_DrawPowerLoss.l0 k y0 y1 y2 y3 y4 y5 y6) (spec_DrawPowerLoss.l0 (k + 1) y0 y1 y2 y3 y4 y5 y6)) ∧ (∀ y0 y1 y2 y3 y4 y5 y6 y7, LeO (spec_DrawPowerLoss.j1 k y0 y1 y2 y3 y4 y5 y6 y7) (spec_DrawPowerLoss.j1 (k + 1) y0 y1 y2 y3 y4 y5 y6 y7)) ∧ (∀ y0 y1 y2 y3 y4 y5, LeO (spec_DrawPowerLoss.j2 k y0 y1 y2 y3 y4 y5) (spec_DrawPowerLoss.j2 (k + 1) y0 y1 y2 y3 y4 y5))
 | 0 => ⟨fun _ _ _ _ _ _ _ r h => by simp [spec_DrawPowerLoss.l0] at h, fun _ _ _ _ _ _ _ _ r h => by simp [spec_DrawPowerLoss.j1] at h, fun _ _ _ _ _ _ r h => by simp [spec_DrawPowerLoss.j2] at h⟩
 | k + 1 => by
  obtain ⟨ih0, ih1, ih2⟩ := spec_DrawPowerLoss.mono_l k
  refine ⟨?_, ?_, ?_⟩
  ·intro y0 y1 y2 y3 y4 y5 y6
   unfold spec_DrawPowerLoss.l0
   repeat' first
   | (with_reducible exact ih0 _ _ _ _ _ _ _)
   | (with_reducible exact ih1 _ _ _ _ _ _ _ _)
   | (with_reducible exact ih2 _ _ _ _ _ _)
   | (with_reducible exact spec_l14Disk.mono _ _ _ _)
   | (with_reducible exact LeO.refl _)
   | (with_reducible exact LeO.none _)
   | (with_reducible refine LeO.ite ?_ ?_)
   | (with_reducible refine LeO.bind ?_ (fun _ => ?_))
   | exact ih0 _ _ _ _ _ _ _
   | exact ih1 _ _ _ _ _ _ _ _
   | exact ih2 _ _ _ _ _ _
   | exact spec_l14Disk.mono _ _ _ _
   | exact LeO.none _
   | refine LeO.ite ?_ ?_
   | refine LeO.bind ?_ (fun _ => ?_)
  ·intro y0 y1 y2 y3 y4 y5 y6 y7
   unfold spec_DrawPowerLoss.j1
   repeat' first
   | (with_reducible exact ih0 _ _ _ _ _ _ _)
   | (with_reducible exact ih1 _ _ _ _ _ _ _ _)
   | (with_reducible exact ih2 _ _ _ _ _ _)
   | (with_reducible exact spec_l14Disk.mono _ _ _ _)
   | (with_reducible exact LeO.refl _)
   | (with_reducible exact LeO.none _)
   | (with_reducible refine LeO.ite ?_ ?_)
   | (with_reducible refine LeO.bind ?_ (fun _ => ?_))
   | exact ih0 _ _ _ _ _ _ _
   | exact ih1 _ _ _ _ _ _ _ _
   | exact ih2 _ _ _ _ _ _
   | exact spec_l14Disk.mono _ _ _ _
   | exact LeO.none _
   | refine LeO.ite ?_ ?_
   | refine LeO.bind ?_ (fun _ => ?_)
  ·intro y0 y1 y2 y3 y4 y5
   unfold spec_DrawPowerLoss.j2
   repeat' first
   | (with_reducible exact ih0 _ _ _ _ _ _ _)
   | (with_reducible exact ih1 _ _ _ _ _ _ _ _)
   | (with_reducible exact ih2 _ _ _ _ _ _)
   | (with_reducible exact spec_l14Disk.mono _ _ _ _)
   | (with_reducible exact LeO.refl _)
   | (with_reducible exact LeO.none _)
   | (with_reducible refine LeO.ite ?_ ?_)
   | (with_reducible refine LeO.bind ?_ (fun _ => ?_))
   | exact ih0 _ _ _ _ _ _ _
   | exact ih1 _ _ _ _ _ _ _ _
   | exact ih2 _ _ _ _ _ _
   | exact spec_l14Disk.mono _ _ _ _
   | exact LeO.none _
   | refine LeO.ite ?_ ?_
   | refine LeO.bind ?_ (fun _ => ?_)
theorem spec_DrawPowerLoss.mono : ∀ a0 k, LeO (spec_DrawPowerLoss.f k a0) (spec_DrawPowerLoss.f (k + 1) a0) := by
 intro a0 k
 obtain ⟨ih0, ih1, ih2⟩ := spec_DrawPowerLoss.mono_l k
 unfold spec_DrawPowerLoss.f
 repeat' first
   | (with_reducible exact ih0 _ _ _ _ _ _ _)
   | (with_reducible exact ih1 _ _ _ _ _ _ _ _)
   | (with_reducible exact ih2 _ _ _ _ _ _)
   | (with_reducible exact spec_l14Disk.mono _ _ _ _)
   | (with_reducible exact LeO.refl _)
   | (with_reducible exact LeO.none _)
   | (with_reducible refine LeO.ite ?_ ?_)
   | (with_reducible refine LeO.bind ?_ (fun _ => ?_))
   | exact ih0 _ _ _ _ _ _ _
   | exact ih1 _ _ _ _ _ _ _ _
   | exact ih2 _ _ _ _ _ _
   | exact spec_l14Disk.mono _ _ _ _
   | exact LeO.none _
   | refine LeO.ite ?_ ?_
   | refine LeO.bind ?_ (fun _ => ?_)
set_option maxHeartbeats 8000000 in
set_option maxRecDepth 100000 in
theorem spec_DrawPowerLoss.calls (k : Nat) (A0 : Option Addr) (c0 : Nat) (l0 : List Int) (r1 : List ByteArray) (r2 : List (S55)) (r3 : List Int) (r4 : Int) (w : World) (hr0 : Kd.C (Kd.int .u8) w A0 l0.length l0) (hc0 : l0.length ≤ c0) (h : spec_DrawPowerLoss.f k l0 = some (r1, r2, r3, r4)) :
  Calls Try.prog 34 #[.slice A0 l0.length c0] w fun e w' => ∃ v0_ v1_ v2_ : Value, e = .returned (.tuple #[.agg #[v0_, v1_], v2_, .int .i64 r4]) ∧ Kd.R Kd.string 9 w' w.heap.size (fun _ => True) v0_ r1 ∧ Kd.R k55 55 w' w.heap.size (fun _ => True) v1_ r2 ∧ Kd.R (Kd.int .i64) 2 w' w.heap.size (fun _ => True) v2_ r3 ∧ Below w.heap.size w w' := by
 have hu30 := Try.underlying30
 have HR0 := am hr0
 have HC0 := am hc0
 clear hr0 hc0
 have HB := am (Below.refl w.heap.size w)
 have H : ((spec_l00From.f l0).bind fun bt240 => ((spec_l14Disk.f k bt240.1 bt240.2.1 bt240.2.2).bind fun bt244 => (spec_DrawPowerLoss.l0 k (([] : List Int)) 0 bt240.1 bt244.2.2.1 bt244.2.2.2 bt244.1 bt244.2.1))) = some (r1, r2, r3, r4) := h
 clear h
 replace H := Option.bind_eq_some_iff.mp H
 obtain ⟨⟨t240, t241, t242⟩, A20, H⟩ := H
 replace H : ((spec_l14Disk.f k t240 t241 t242).bind fun bt244 => (spec_DrawPowerLoss.l0 k (([] : List Int)) 0 t240 bt244.2.2.1 bt244.2.2.2 bt244.1 bt244.2.1)) = some (r1, r2, r3, r4) := H
 have A2 := am A20
 clear A20
 replace H := Option.bind_eq_some_iff.mp H
 obtain ⟨⟨t244, t247, t250, t251⟩, A30, H⟩ := H
 replace H : (spec_DrawPowerLoss.l0 k (([] : List Int)) 0 t240 t250 t251 t244 t247) = some (r1, r2, r3, r4) := H
 have A3 := am A30
 clear A30
 obtain ⟨y253, hy253⟩ : ∃ y_ : List Int, y_ = (([] : List Int)) := ⟨_, rfl⟩
 replace H : (spec_DrawPowerLoss.l0 k y253 0 t240 t250 t251 t244 t247) = some (r1, r2, r3, r4) := by first | (rw [hy253]; with_reducible exact H) | (have H2_ := (Option.bind_some _ _).symm.trans H; rw [hy253]; with_reducible exact H2_) | (have H2_ := (Option.bind_some _ _).symm.trans H; with_reducible exact H2_) | with_reducible exact H | (rw [hy253]; exact H) | exact H
 have Ny253 := am hy253
 clear hy253
 have H' := am H
 clear H
 go_enter Try.func34, Try.ntmps34
 go_wp2_with (first | ((with_reducible refine gate_dst (N := 2) rfl ?_); refine box_event ?hg (N := 2) ?hd (cs := #[.slice none 0 0, .slice none 0 0]) (t := 30) ?hr ?_; (case hd => rfl); (case hg => rfl); (case hr => first | (go_simp; done) | (go_simp; rfl)); intro gb239 hg w4 hbox hb; have n0_ := am (below_step (by repeat (first | (with_reducible first | exact HB.out | apply bal | apply pdn | apply bd1) | exact HB.out)) hb); have n1_ := am (hbox); have n2_ := am ((by rw [hg]; exact (below_size (by repeat (first | (with_reducible first | exact HB.out | apply bal | apply pdn | apply bd1) | exact HB.out))) : w.heap.size ≤ gb239)); have n3_ := am ((by rw [hg]; exact (below_size (by repeat (first | (with_reducible first | exact HB.out | apply bal | apply pdn | apply bd1) | exact HB.out))) : w.heap.size ≤ gb239)); clear HB; have HB := n0_; have BK239 := n1_; have GW239 := n2_; have GE239 := n3_; clear n0_ n1_ n2_ n3_; clear hb hbox hg) | ((with_reducible refine gate_callee (f := 79) rfl ?_); refine goesL_ (some 11) rfl rfl Try.func79 (by kernel_rfl) rfl #[.slice A0 l0.length c0] rfl (by (try simp only [mta, mco, mni]); first | done | rfl | (simp only [lnd, lnt]; rfl)) ?_; (with_reducible refine (spec_l00From.calls _ _ l0 t240 t241 t242 w _ ?side1 ?side2 ?side3 A2.out).mono ?_); (case side1 => repeat (first | (with_reducible first | exact HB.out | apply bal | apply pdn | apply bd1 | refine bst ?_ GE239.out) | exact HB.out)); (case side2 => exact HR0.out); (case side3 => exact HC0.out); rintro e w5 ⟨g243, rfl, hi, hb, hb2⟩; refine ⟨_, rfl, ?_⟩; have n0_ := am (kbb (g := gb239) (o := .cells #[.slice none 0 0, .slice none 0 0] 30 (0, 0)) (by (with_reducible repeat (first | apply kdn | apply kdr | apply kal)); exact BK239.out) hb2); have n1_ := am (hb); have n2_ := am (hi); have n3_ := am (IsS139.ne_blk hi (kbb (g := gb239) (o := .cells #[.slice none 0 0, .slice none 0 0] 30 (0, 0)) (by (with_reducible repeat (first | apply kdn | apply kdr | apply kal)); exact BK239.out) hb2) (by decide)); have n4_ := am (Ne.symm (IsS139.ne_blk hi (kbb (g := gb239) (o := .cells #[.slice none 0 0, .slice none 0 0] 30 (0, 0)) (by (with_reducible repeat (first | apply kdn | apply kdr | apply kal)); exact BK239.out) hb2) (by decide))); clear BK239; clear HB; have BK239 := n0_; have HB := n1_; have HI243 := n2_; have NB243_239 := n3_; have NB239_243 := n4_; clear n0_ n1_ n2_ n3_ n4_; (try clear hb); (try clear hb2); (try clear hk); (try clear hi)) | ((with_reducible refine gate_callee (f := 80) rfl ?_); refine goesL_ (some 13) rfl rfl Try.func80 (by kernel_rfl) rfl #[.pointer (some ⟨g243, 0, none⟩)] rfl (by (try simp only [mta, mco, mni]); first | done | rfl | (simp only [lnd, lnt]; rfl)) ?_; (with_reducible refine (spec_l14Disk.calls k g243 t240 t241 t242 t244 t247 t250 t251 w _ ?side1 ?side2 A3.out).mono ?_); (case side1 => repeat (first | (with_reducible first | exact HI243.out | apply IsS139.alloc | apply IsS139.drewN | apply IsS139.drew | apply IsS139.set_1 | apply IsS139.set_2 | refine IsS139.far ?_ NB243_239.out _) | exact HI243.out)); (case side2 => repeat (first | (with_reducible first | exact HB.out | apply bal | apply pdn | apply bd1 | refine bst ?_ (IsS139.ge HI243.out) | refine bst ?_ GE239.out) | exact HB.out)); rintro e w6 ⟨v245, v248, rfl, ho0, ho1, hi, hb, hk⟩; refine ⟨_, rfl, ?_⟩; have n0_ := am (KeepBut.blk hk (g' := gb239) (o := .cells #[.slice none 0 0, .slice none 0 0] 30 (0, 0)) (by (with_reducible repeat (first | apply kdn | apply kdr | apply kal)); exact BK239.out) NB239_243.out (by simp)); have n1_ := am (Kd.R_lower ho0 (below_size (by repeat (first | (with_reducible first | exact HB.out | apply bal | apply pdn | apply bd1 | refine bst ?_ (IsS139.ge HI243.out) | refine bst ?_ GE239.out) | exact HB.out)))); have n2_ := am (Kd.R_lower ho1 (below_size (by repeat (first | (with_reducible first | exact HB.out | apply bal | apply pdn | apply bd1 | refine bst ?_ (IsS139.ge HI243.out) | refine bst ?_ GE239.out) | exact HB.out)))); have n3_ := am (hb); have n4_ := am (hi); clear BK239; clear HB; clear HI243; have BK239 := n0_; have HO246 := n1_; have HO249 := n2_; have HB := n3_; have HI243 := n4_; clear n0_ n1_ n2_ n3_ n4_; (try clear hb); (try clear hb2); (try clear hk); (try clear hi); (try clear ho0); (try clear ho1)) | ((with_reducible refine gate_dst (N := 6) rfl ?_); refine box_event ?hg (N := 6) ?hd (cs := #[.slice none 0 0, .slice none 0 0]) (t := 30) ?hr ?_; (case hd => rfl); (case hg => rfl); (case hr => first | (go_simp; done) | (go_simp; rfl)); intro gb252 hg w7 hbox hb; have n0_ := am (krb (by (with_reducible repeat (first | apply kra | apply krn | apply krd)); exact HO246.out) hb); have n1_ := am (krb (by (with_reducible repeat (first | apply kra | apply krn | apply krd)); exact HO249.out) hb); have n2_ := am (kbb (g := gb239) (o := .cells #[.slice none 0 0, .slice none 0 0] 30 (0, 0)) (by (with_reducible repeat (first | apply kdn | apply kdr | apply kal)); exact BK239.out) hb); have n3_ := am (IsS139.below (by repeat (first | (with_reducible first | exact HI243.out | apply IsS139.alloc | apply IsS139.drewN | apply IsS139.drew | apply IsS139.set_1 | apply IsS139.set_2 | refine IsS139.far ?_ NB243_239.out _) | exact HI243.out)) hb); have n4_ := am (below_step (by repeat (first | (with_reducible first | exact HB.out | apply bal | apply pdn | apply bd1 | refine bst ?_ (IsS139.ge HI243.out) | refine bst ?_ GE239.out) | exact HB.out)) hb); have n5_ := am (hbox); have n6_ := am ((by rw [hg]; exact (below_size (by repeat (first | (with_reducible first | exact HB.out | apply bal | apply pdn | apply bd1 | refine bst ?_ (IsS139.ge HI243.out) | refine bst ?_ GE239.out) | exact HB.out))) : w.heap.size ≤ gb252)); have n7_ := am ((by rw [hg]; exact (below_size (by repeat (first | (with_reducible first | exact HB.out | apply bal | apply pdn | apply bd1 | refine bst ?_ (IsS139.ge HI243.out) | refine bst ?_ GE239.out) | exact HB.out))) : w.heap.size ≤ gb252)); have n8_ := am ((by rw [hg]; exact Nat.ne_of_lt (blk_lt (g := gb239) (o := .cells #[.slice none 0 0, .slice none 0 0] 30 (0, 0)) (by (with_reducible repeat (first | apply kdn | apply kdr | apply kal)); exact BK239.out)) : gb239 ≠ gb252)); have n9_ := am ((by rw [hg]; exact Nat.ne_of_gt (blk_lt (g := gb239) (o := .cells #[.slice none 0 0, .slice none 0 0] 30 (0, 0)) (by (with_reducible repeat (first | apply kdn | apply kdr | apply kal)); exact BK239.out)) : gb252 ≠ gb239)); have n10_ := am ((by rw [hg]; exact Nat.ne_of_lt (IsS139.lt (show IsS139 w _ g243 t240 t250 t251 from by repeat (first | (with_reducible first | exact HI243.out | apply IsS139.alloc | apply IsS139.drewN | apply IsS139.drew | apply IsS139.set_1 | apply IsS139.set_2 | refine IsS139.far ?_ NB243_239.out _) | exact HI243.out))) : g243 ≠ gb252)); have n11_ := am ((by rw [hg]; exact Nat.ne_of_gt (IsS139.lt (show IsS139 w _ g243 t240 t250 t251 from by repeat (first | (with_reducible first | exact HI243.out | apply IsS139.alloc | apply IsS139.drewN | apply IsS139.drew | apply IsS139.set_1 | apply IsS139.set_2 | refine IsS139.far ?_ NB243_239.out _) | exact HI243.out))) : gb252 ≠ g243)); clear HO246; clear HO249; clear BK239; clear HI243; clear HB; have HO246 := n0_; have HO249 := n1_; have BK239 := n2_; have HI243 := n3_; have HB := n4_; have BK252 := n5_; have GW252 := n6_; have GE252 := n7_; have NB239_252 := n8_; have NB252_239 := n9_; have NB243_252 := n10_; have NB252_243 := n11_; clear n0_ n1_ n2_ n3_ n4_ n5_ n6_ n7_ n8_ n9_ n10_ n11_; clear hb hbox hg; obtain ⟨Ao8, co8, eo8⟩ := Kd.R_slice HO246.out; subst eo8; have hnb9 := NB252_239.out; have hnc9 := NB239_252.out; have hnb10 := NB252_243.out; have hnc10 := NB243_252.out; have hcz11_0 : w7.cell? ⟨gb252, 0, none⟩ = some (.slice none 0 0) := (kce BK252.out 0).trans rfl; have hcz11_1 : w7.cell? ⟨gb252, 1, none⟩ = some (.slice none 0 0) := (kce BK252.out 1).trans rfl; have hfz11_0 := kfr BK252.out 0; have hfz11_1 := kfr BK252.out 1; obtain ⟨Ao12, co12, eo12⟩ := Kd.R_slice HO249.out; subst eo12) | ((with_reducible refine gate_dst (N := 14) rfl ?_); refine Kd.R_lit (Kd.int .i64) _ 2 ?hg (N := 14) ?hd (xs := ([] : List Int)) (inner := []) (ok := fun _ => True) (okp := fun _ => True) ?hr ?hp (fun _ hk => hk) trivial (Below.refl _ _) (Nat.le_refl _) (by simp) ?_; (case hd => rfl); (case hg => rfl); (case hr => first | (go_simp; done) | (go_simp; rfl)); (case hp => exact (Reps.none _ _)); intro v254 w13 ho14 hb hg_ hnew_; clear hg_ hnew_; (first | rw [← Ny253.out] at ho14 | (simp only [Int.reduceToNat] at ho14; rw [← Ny253.out] at ho14)); have n0_ := am (krb (by (with_reducible repeat (first | apply kra | apply krn | apply krd)); exact (Kd.R_mono (kfa (p := ⟨gb252, 1, none⟩) (kfa (p := ⟨gb252, 0, none⟩) (Kd.R_types HO246.out BK252.out (by decide)) (fun _ hk => hk.2) (.slice Ao8 t244.length co8)) (fun _ hk => hk.2) (.slice Ao12 t247.length co12)) (fun _ h_ => h_.1))) hb); have n1_ := am (krb (by (with_reducible repeat (first | apply kra | apply krn | apply krd)); exact (Kd.R_mono (kfa (p := ⟨gb252, 1, none⟩) (kfa (p := ⟨gb252, 0, none⟩) (Kd.R_types HO249.out BK252.out (by decide)) (fun _ hk => hk.2) (.slice Ao8 t244.length co8)) (fun _ hk => hk.2) (.slice Ao12 t247.length co12)) (fun _ h_ => h_.1))) hb); have n2_ := am (Kd.R_lower ho14 (below_size (by repeat (first | (with_reducible first | exact HB.out | apply bal | apply pdn | apply bd1 | refine bst ?_ (IsS139.ge HI243.out) | refine bst ?_ GE239.out | refine bst ?_ GE252.out) | exact HB.out)))); have n3_ := am (kbb (g := gb239) (o := .cells #[.slice none 0 0, .slice none 0 0] 30 (0, 0)) (by (with_reducible repeat (first | apply kdn | apply kdr | apply kal)); refine blk_far ?_ NB239_252.out _; (with_reducible repeat (first | apply kdn | apply kdr | apply kal)); refine blk_far ?_ NB239_252.out _; (with_reducible repeat (first | apply kdn | apply kdr | apply kal)); exact BK239.out) hb); have n4_ := am (IsS139.below (show IsS139 w ((w7.setCell ⟨gb252, 0, none⟩ (.slice Ao8 t244.length co8)).setCell ⟨gb252, 1, none⟩ (.slice Ao12 t247.length co12)) g243 t240 t250 t251 from by repeat (first | (with_reducible first | exact HI243.out | apply IsS139.alloc | apply IsS139.drewN | apply IsS139.drew | apply IsS139.set_1 | apply IsS139.set_2 | refine IsS139.far ?_ NB243_239.out _ | refine IsS139.far ?_ NB243_252.out _) | exact HI243.out)) hb); have n5_ := am (kbb (g := gb252) (o := .cells #[.slice Ao8 t244.length co8, .slice Ao12 t247.length co12] 30 (0, 0)) (by (with_reducible repeat (first | apply kdn | apply kdr | apply kal)); refine blk_put (cs := #[.slice Ao8 t244.length co8, .slice none 0 0]) ?_ 1 _ rfl; (with_reducible repeat (first | apply kdn | apply kdr | apply kal)); refine blk_put (cs := #[.slice none 0 0, .slice none 0 0]) ?_ 0 _ rfl; (with_reducible repeat (first | apply kdn | apply kdr | apply kal)); exact BK252.out) hb); have n6_ := am (below_step (by repeat (first | (with_reducible first | exact HB.out | apply bal | apply pdn | apply bd1 | refine bst ?_ (IsS139.ge HI243.out) | refine bst ?_ GE239.out | refine bst ?_ GE252.out) | exact HB.out)) hb); clear HO246; clear HO249; clear BK239; clear HI243; clear BK252; clear HB; have HO246 := n0_; have HO249 := n1_; have HO255 := n2_; have BK239 := n3_; have HI243 := n4_; have BK252 := n5_; have HB := n6_; clear n0_ n1_ n2_ n3_ n4_ n5_ n6_; clear hb ho14))
 go_loopg [7, 8] k (fun kq v7 v8 w' => ∃ (x7_1 : List Int) (x8_1 : Int) (x244001_1 : Int) (x244002_1 : Int), v8 = .int .i64 x8_1 ∧ Aside0 (spec_DrawPowerLoss.l0 kq x7_1 x8_1 t240 x244001_1 x244002_1 t244 t247 = some (r1, r2, r3, r4)) ∧ Aside0 (kq ≤ k) ∧ Aside0 (Kd.R (Kd.int .i64) 2 w' w.heap.size (fun _ => True) v7 x7_1) ∧ Aside0 (Kd.R Kd.string 9 w' w.heap.size (fun _ => True) (.slice Ao8 t244.length co8) t244) ∧ Aside0 (Kd.R k55 55 w' w.heap.size (fun _ => True) (.slice Ao12 t247.length co12) t247) ∧ Aside0 (w'.heap[gb239]? = some (.cells #[(.slice none 0 0), (.slice none 0 0)] 30 (0, 0))) ∧ Aside0 (w'.heap[gb252]? = some (.cells #[(.slice Ao8 t244.length co8), (.slice Ao12 t247.length co12)] 30 (0, 0))) ∧ Aside0 (IsS139 w w' g243 t240 x244001_1 x244002_1) ∧ Aside0 (Below w.heap.size w w'))
 case atStart => exact ⟨(y253), (0), (t250), (t251), (by first | rfl | (simp; done) | (simp [*]; done)), H', ⟨Nat.le_refl _⟩, ⟨by (with_reducible repeat (first | apply kra | apply krn | apply krd)); exact HO255.out⟩, ⟨by (with_reducible repeat (first | apply kra | apply krn | apply krd)); exact HO246.out⟩, ⟨by (with_reducible repeat (first | apply kra | apply krn | apply krd)); exact HO249.out⟩, ⟨by (with_reducible repeat (first | apply kdn | apply kdr | apply kal)); exact BK239.out⟩, ⟨by (with_reducible repeat (first | apply kdn | apply kdr | apply kal)); exact BK252.out⟩, ⟨by repeat (first | (with_reducible first | exact HI243.out | apply IsS139.alloc | apply IsS139.drewN | apply IsS139.drew | apply IsS139.set_1 | apply IsS139.set_2 | refine IsS139.far ?_ NB243_239.out _ | refine IsS139.far ?_ NB243_252.out _) | exact HI243.out)⟩, ⟨by repeat (first | (with_reducible first | exact HB.out | apply bal | apply pdn | apply bd1 | refine bst ?_ (IsS139.ge HI243.out) | refine bst ?_ GE239.out | refine bst ?_ GE252.out) | exact HB.out)⟩⟩
 case round =>
  clear H'
  obtain ⟨x7_1, x8_1, x244001_1, x244002_1, rfl, HA, HK1, HO_7, HO_253000, HO_253001, BK239, BK252, HI243, HB⟩ := hrel
  cases gk with
  | zero => exact absurd HA.out (by simp [spec_DrawPowerLoss.l0])
  | succ k1 =>
   have H := HA.out
   clear HA
   simp only [spec_DrawPowerLoss.l0] at H
   have HC15 := am H
   clear H
   go_upto_region 5 with (fail)
   go_cut [23] (fun v23 wc => ∃ (kq : Nat) (x23_14 : Bool), v23 = .bool x23_14 ∧ Aside0 (spec_DrawPowerLoss.j1 kq x7_1 x8_1 x23_14 t240 x244001_1 x244002_1 t244 t247 = some (r1, r2, r3, r4)) ∧ Aside0 (kq ≤ k1) ∧ Aside0 (Kd.R (Kd.int .i64) 2 wc w.heap.size (fun _ => True) u7 x7_1) ∧ Aside0 (Kd.R Kd.string 9 wc w.heap.size (fun _ => True) (.slice Ao8 t244.length co8) t244) ∧ Aside0 (Kd.R k55 55 wc w.heap.size (fun _ => True) (.slice Ao12 t247.length co12) t247) ∧ Aside0 (wc.heap[gb239]? = some (.cells #[(.slice none 0 0), (.slice none 0 0)] 30 (0, 0))) ∧ Aside0 (wc.heap[gb252]? = some (.cells #[(.slice Ao8 t244.length co8), (.slice Ao12 t247.length co12)] 30 (0, 0))) ∧ Aside0 (IsS139 w wc g243 t240 x244001_1 x244002_1) ∧ Aside0 (Below w.heap.size w wc))
   case first =>
    have H := HC15.out
    clear HC15
    by_cases c16 : x8_1 < (t247.length : Int)
    ·rw [if_pos c16] at H
     have c16b0 : decide (x8_1 < (t247.length : Int)) = true := decide_eq_true c16
     clear c16
     (first | rw [c16b0] | (simp only [i64_w, i32_w]; rw [c16b0]) | skip)
     have H' := am H
     clear H
     have hnb17 := NB252_239.out
     have hnc17 := NB239_252.out
     have hnb18 := NB252_243.out
     have hnc18 := NB243_252.out
     have hcz19_0 : wr.cell? ⟨gb252, 0, none⟩ = some (.slice Ao8 t244.length co8) := (kce BK252.out 0).trans rfl
     have hcz19_1 : wr.cell? ⟨gb252, 1, none⟩ = some (.slice Ao12 t247.length co12) := (kce BK252.out 1).trans rfl
     have hfz19_0 := kfr BK252.out 0
     have hfz19_1 := kfr BK252.out 1
     go_wp2
     go_meet
     case rel => exact ⟨_, (decide (x8_1 < 8)), (by first | rfl | (simp; done) | (simp [*]; done)), H', ⟨by have := HK1.out; first | omega | exact Nat.le_refl _⟩, ⟨by (with_reducible repeat (first | apply kra | apply krn | apply krd)); exact HO_7.out⟩, ⟨by (with_reducible repeat (first | apply kra | apply krn | apply krd)); exact HO_253000.out⟩, ⟨by (with_reducible repeat (first | apply kra | apply krn | apply krd)); exact HO_253001.out⟩, ⟨by (with_reducible repeat (first | apply kdn | apply kdr | apply kal)); exact BK239.out⟩, ⟨by (with_reducible repeat (first | apply kdn | apply kdr | apply kal)); exact BK252.out⟩, ⟨by repeat (first | (with_reducible first | exact HI243.out | apply IsS139.alloc | apply IsS139.drewN | apply IsS139.drew | apply IsS139.set_1 | apply IsS139.set_2 | refine IsS139.far ?_ NB243_239.out _ | refine IsS139.far ?_ NB243_252.out _) | exact HI243.out)⟩, ⟨by repeat (first | (with_reducible first | exact HB.out | apply bal | apply pdn | apply bd1 | refine bst ?_ (IsS139.ge HI243.out) | refine bst ?_ GE239.out | refine bst ?_ GE252.out) | exact HB.out)⟩⟩
    ·rw [if_neg c16] at H
     have c16b0 : decide (x8_1 < (t247.length : Int)) = false := decide_eq_false c16
     clear c16
     (first | rw [c16b0] | (simp only [i64_w, i32_w]; rw [c16b0]) | skip)
     have H' := am H
     clear H
     have hnb20 := NB252_239.out
     have hnc20 := NB239_252.out
     have hnb21 := NB252_243.out
     have hnc21 := NB243_252.out
     have hcz22_0 : wr.cell? ⟨gb252, 0, none⟩ = some (.slice Ao8 t244.length co8) := (kce BK252.out 0).trans rfl
     have hcz22_1 : wr.cell? ⟨gb252, 1, none⟩ = some (.slice Ao12 t247.length co12) := (kce BK252.out 1).trans rfl
     have hfz22_0 := kfr BK252.out 0
     have hfz22_1 := kfr BK252.out 1
     go_wp2
     go_meet
     case rel => exact ⟨_, (false), (by first | rfl | (simp; done) | (simp [*]; done)), H', ⟨by have := HK1.out; first | omega | exact Nat.le_refl _⟩, ⟨by (with_reducible repeat (first | apply kra | apply krn | apply krd)); exact HO_7.out⟩, ⟨by (with_reducible repeat (first | apply kra | apply krn | apply krd)); exact HO_253000.out⟩, ⟨by (with_reducible repeat (first | apply kra | apply krn | apply krd)); exact HO_253001.out⟩, ⟨by (with_reducible repeat (first | apply kdn | apply kdr | apply kal)); exact BK239.out⟩, ⟨by (with_reducible repeat (first | apply kdn | apply kdr | apply kal)); exact BK252.out⟩, ⟨by repeat (first | (with_reducible first | exact HI243.out | apply IsS139.alloc | apply IsS139.drewN | apply IsS139.drew | apply IsS139.set_1 | apply IsS139.set_2 | refine IsS139.far ?_ NB243_239.out _ | refine IsS139.far ?_ NB243_252.out _) | exact HI243.out)⟩, ⟨by repeat (first | (with_reducible first | exact HB.out | apply bal | apply pdn | apply bd1 | refine bst ?_ (IsS139.ge HI243.out) | refine bst ?_ GE239.out | refine bst ?_ GE252.out) | exact HB.out)⟩⟩
   case rest =>
    clear HC15
    obtain ⟨kq, x23_14, rfl, HA, HJ14, HO_7, HO_253000, HO_253001, BK239, BK252, HI243, HB⟩ := hcut
    cases kq with
    | zero => exact absurd HA.out (by simp [spec_DrawPowerLoss.j1])
    | succ kj14 =>
     have H := HA.out
     clear HA
     simp only [spec_DrawPowerLoss.j1] at H
     by_cases c23 : x23_14 = true
     ·subst c23
      have H1 : ((spec_l00Src_one.f t240 x244001_1 x244002_1 2).bind fun bt256 => (if bt256.1 = true then (if x7_1.length < 17592186044416 then (spec_DrawPowerLoss.l0 kj14 (x7_1 ++ [x8_1]) (wrap64 (x8_1 + 1)) t240 bt256.2.1 bt256.2.2 t244 t247) else (none)) else (spec_DrawPowerLoss.l0 kj14 x7_1 (wrap64 (x8_1 + 1)) t240 bt256.2.1 bt256.2.2 t244 t247))) = some (r1, r2, r3, r4) := by rw [if_pos rfl] at H; exact H
      clear H
      have H := H1
      clear H1
      replace H := Option.bind_eq_some_iff.mp H
      obtain ⟨⟨t256, t257, t258⟩, A240, H⟩ := H
      replace H : (if t256 = true then (if x7_1.length < 17592186044416 then (spec_DrawPowerLoss.l0 kj14 (x7_1 ++ [x8_1]) (wrap64 (x8_1 + 1)) t240 t257 t258 t244 t247) else (none)) else (spec_DrawPowerLoss.l0 kj14 x7_1 (wrap64 (x8_1 + 1)) t240 t257 t258 t244 t247)) = some (r1, r2, r3, r4) := H
      have A24 := am A240
      clear A240
      by_cases c25 : t256 = true
      ·subst c25
       have H1 : (if x7_1.length < 17592186044416 then (spec_DrawPowerLoss.l0 kj14 (x7_1 ++ [x8_1]) (wrap64 (x8_1 + 1)) t240 t257 t258 t244 t247) else (none)) = some (r1, r2, r3, r4) := by rw [if_pos rfl] at H; exact H
       clear H
       have H := H1
       clear H1
       by_cases c26 : x7_1.length < 17592186044416
       ·rw [if_pos c26] at H
        have LMc26 := am c26
        clear c26
        obtain ⟨y259, hy259⟩ : ∃ y_ : List Int, y_ = (x7_1 ++ [x8_1]) := ⟨_, rfl⟩
        replace H : (spec_DrawPowerLoss.l0 kj14 y259 (wrap64 (x8_1 + 1)) t240 t257 t258 t244 t247) = some (r1, r2, r3, r4) := by first | (rw [hy259]; with_reducible exact H) | (have H2_ := (Option.bind_some _ _).symm.trans H; rw [hy259]; with_reducible exact H2_) | (have H2_ := (Option.bind_some _ _).symm.trans H; with_reducible exact H2_) | with_reducible exact H | (rw [hy259]; exact H) | exact H
        have Ny259 := am hy259
        clear hy259
        have H' := am H
        clear H
        go_wp2_with (first | ((with_reducible refine gate_callee (f := 81) rfl ?_); refine goesL_ (some 27) rfl rfl Try.func81 (by kernel_rfl) rfl #[.pointer (some ⟨g243, 0, none⟩), .int .i64 2] rfl (by (try simp only [mta, mco, mni]); first | done | rfl | (simp only [lnd, lnt]; rfl)) ?_; (with_reducible refine (spec_l00Src_one.calls g243 t240 x244001_1 x244002_1 2 true t257 t258 w _ ?side1 ?side2 A24.out).mono ?_); (case side1 => repeat (first | (with_reducible first | exact HI243.out | apply IsS139.alloc | apply IsS139.drewN | apply IsS139.drew | apply IsS139.set_1 | apply IsS139.set_2 | refine IsS139.far ?_ NB243_239.out _ | refine IsS139.far ?_ NB243_252.out _) | exact HI243.out)); (case side2 => repeat (first | (with_reducible first | exact HB.out | apply bal | apply pdn | apply bd1 | refine bst ?_ (IsS139.ge HI243.out) | refine bst ?_ GE239.out | refine bst ?_ GE252.out) | exact HB.out)); rintro e w27 ⟨rfl, hi, hb, hk⟩; refine ⟨_, rfl, ?_⟩; have n0_ := am (Kd.R_mono (Kd.R_keep (IsS139.apart (show IsS139 w _ g243 t240 x244001_1 x244002_1 from by repeat (first | (with_reducible first | exact HI243.out | apply IsS139.alloc | apply IsS139.drewN | apply IsS139.drew | apply IsS139.set_1 | apply IsS139.set_2 | refine IsS139.far ?_ NB243_239.out _ | refine IsS139.far ?_ NB243_252.out _) | exact HI243.out)) (by (with_reducible repeat (first | apply kra | apply krn | apply krd)); exact HO_7.out) (by decide)) hk (fun _ h => h.2)) (fun _ h => h.1)); have n1_ := am (Kd.R_mono (Kd.R_keep (IsS139.apart (show IsS139 w _ g243 t240 x244001_1 x244002_1 from by repeat (first | (with_reducible first | exact HI243.out | apply IsS139.alloc | apply IsS139.drewN | apply IsS139.drew | apply IsS139.set_1 | apply IsS139.set_2 | refine IsS139.far ?_ NB243_239.out _ | refine IsS139.far ?_ NB243_252.out _) | exact HI243.out)) (by (with_reducible repeat (first | apply kra | apply krn | apply krd)); exact HO_253000.out) (by decide)) hk (fun _ h => h.2)) (fun _ h => h.1)); have n2_ := am (Kd.R_mono (Kd.R_keep (IsS139.apart (show IsS139 w _ g243 t240 x244001_1 x244002_1 from by repeat (first | (with_reducible first | exact HI243.out | apply IsS139.alloc | apply IsS139.drewN | apply IsS139.drew | apply IsS139.set_1 | apply IsS139.set_2 | refine IsS139.far ?_ NB243_239.out _ | refine IsS139.far ?_ NB243_252.out _) | exact HI243.out)) (by (with_reducible repeat (first | apply kra | apply krn | apply krd)); exact HO_253001.out) (by decide)) hk (fun _ h => h.2)) (fun _ h => h.1)); have n3_ := am (KeepBut.blk hk (g' := gb239) (o := .cells #[.slice none 0 0, .slice none 0 0] 30 (0, 0)) (by (with_reducible repeat (first | apply kdn | apply kdr | apply kal)); exact BK239.out) NB239_243.out (by simp)); have n4_ := am (KeepBut.blk hk (g' := gb252) (o := .cells #[.slice Ao8 t244.length co8, .slice Ao12 t247.length co12] 30 (0, 0)) (by (with_reducible repeat (first | apply kdn | apply kdr | apply kal)); exact BK252.out) NB252_243.out (by simp)); have n5_ := am (hb); have n6_ := am (hi); clear HO_7; clear HO_253000; clear HO_253001; clear BK239; clear BK252; clear HB; clear HI243; have HO_7 := n0_; have HO_253000 := n1_; have HO_253001 := n2_; have BK239 := n3_; have BK252 := n4_; have HB := n5_; have HI243 := n6_; clear n0_ n1_ n2_ n3_ n4_ n5_ n6_; (try clear hb); (try clear hb2); (try clear hk); (try clear hi)) | ((with_reducible refine gate_builtin (b := .append) (xs := #[.tmp 28, .tmp 30]) rfl ?_); at_builtin; refine Kd.R_append (Kd.int .i64) (w0 := w) w.heap.size rfl (.tmp 28) (.tmp 30) 42 2 (.int .i64 0) 8 rfl Try.underlying42 info2 rfl (by decide) (by omega) u7 x7_1 x8_1 [.int .i64 x8_1] (fun _ => True) (fun _ => False) rfl rfl ?aP (fun _ hk => hk.elim) ?aF ?aO ?aB ?aS ?aL ?_; (case aP => exact rfl); (case aB => exact (by repeat (first | (with_reducible first | exact HB.out | apply bal | apply pdn | apply bd1 | refine bst ?_ (IsS139.ge HI243.out) | refine bst ?_ GE239.out | refine bst ?_ GE252.out) | exact HB.out))); (case aF => exact (fun _ _ => trivial)); (case aO => exact (by (with_reducible repeat (first | apply kra | apply krn | apply krd)); exact HO_7.out)); (case aS => exact (below_size (by repeat (first | (with_reducible first | exact HB.out | apply bal | apply pdn | apply bd1 | refine bst ?_ (IsS139.ge HI243.out) | refine bst ?_ GE239.out | refine bst ?_ GE252.out) | exact HB.out)))); (case aL => have := LMc26.out; omega); intro v260 w28 ho hb hg hat; rw [← Ny259.out] at ho; have n0_ := am (Kd.R_over' (by (with_reducible repeat (first | apply kra | apply krn | apply krd)); exact HO_253000.out) (Kd.R_typed (by (with_reducible repeat (first | apply kra | apply krn | apply krd)); exact HO_7.out)) (by decide) hg); have n1_ := am (Kd.R_over' (by (with_reducible repeat (first | apply kra | apply krn | apply krd)); exact HO_253001.out) (Kd.R_typed (by (with_reducible repeat (first | apply kra | apply krn | apply krd)); exact HO_7.out)) (by decide) hg); have n2_ := am (blk_grown (g := gb239) (o := .cells #[.slice none 0 0, .slice none 0 0] 30 (0, 0)) (by (with_reducible repeat (first | apply kdn | apply kdr | apply kal)); exact BK239.out) hg (Kd.R_ne HO_7.out BK239.out (by decide))); have n3_ := am (blk_grown (g := gb252) (o := .cells #[.slice Ao8 t244.length co8, .slice Ao12 t247.length co12] 30 (0, 0)) (by (with_reducible repeat (first | apply kdn | apply kdr | apply kal)); exact BK252.out) hg (Kd.R_ne HO_7.out BK252.out (by decide))); have n4_ := am (IsS139.grown (by repeat (first | (with_reducible first | exact HI243.out | apply IsS139.alloc | apply IsS139.drewN | apply IsS139.drew | apply IsS139.set_1 | apply IsS139.set_2 | refine IsS139.far ?_ NB243_239.out _ | refine IsS139.far ?_ NB243_252.out _) | exact HI243.out)) hg (IsS139.own_ne HI243.out HO_7.out (by decide))); have n5_ := am (hb); have n6_ := am (ho); clear HO_253000; clear HO_253001; clear BK239; clear BK252; clear HI243; clear HB; clear HO_7; have HO_253000 := n0_; have HO_253001 := n1_; have BK239 := n2_; have BK252 := n3_; have HI243 := n4_; have HB := n5_; have HO261 := n6_; clear n0_ n1_ n2_ n3_ n4_ n5_ n6_; clear ho hb hg hat))
        go_roundg kj14
        case measure => have := HK1.out; have := HJ14.out; omega
        case rel => exact ⟨(y259), (wrap64 (x8_1 + 1)), (t257), (t258), (by first | rfl | (simp; done) | (simp [*]; done)), H', ⟨by have := HK1.out; have := HJ14.out; omega⟩, ⟨by (with_reducible repeat (first | apply kra | apply krn | apply krd)); exact HO261.out⟩, ⟨by (with_reducible repeat (first | apply kra | apply krn | apply krd)); exact HO_253000.out⟩, ⟨by (with_reducible repeat (first | apply kra | apply krn | apply krd)); exact HO_253001.out⟩, ⟨by (with_reducible repeat (first | apply kdn | apply kdr | apply kal)); exact BK239.out⟩, ⟨by (with_reducible repeat (first | apply kdn | apply kdr | apply kal)); exact BK252.out⟩, ⟨by repeat (first | (with_reducible first | exact HI243.out | apply IsS139.alloc | apply IsS139.drewN | apply IsS139.drew | apply IsS139.set_1 | apply IsS139.set_2 | refine IsS139.far ?_ NB243_239.out _ | refine IsS139.far ?_ NB243_252.out _) | exact HI243.out)⟩, ⟨by repeat (first | (with_reducible first | exact HB.out | apply bal | apply pdn | apply bd1 | refine bst ?_ (IsS139.ge HI243.out) | refine bst ?_ GE239.out | refine bst ?_ GE252.out) | exact HB.out)⟩⟩
       ·rw [if_neg c26] at H
        exact absurd H (by simp)
      ·replace c25 := Bool.eq_false_iff.mpr c25
       subst c25
       have H1 : (spec_DrawPowerLoss.l0 kj14 x7_1 (wrap64 (x8_1 + 1)) t240 t257 t258 t244 t247) = some (r1, r2, r3, r4) := by rw [if_neg (show ¬ (false = true) by decide)] at H; exact H
       clear H
       have H := H1
       clear H1
       have H' := am H
       clear H
       go_wp2_with (first | ((with_reducible refine gate_callee (f := 81) rfl ?_); refine goesL_ (some 27) rfl rfl Try.func81 (by kernel_rfl) rfl #[.pointer (some ⟨g243, 0, none⟩), .int .i64 2] rfl (by (try simp only [mta, mco, mni]); first | done | rfl | (simp only [lnd, lnt]; rfl)) ?_; (with_reducible refine (spec_l00Src_one.calls g243 t240 x244001_1 x244002_1 2 false t257 t258 w _ ?side1 ?side2 A24.out).mono ?_); (case side1 => repeat (first | (with_reducible first | exact HI243.out | apply IsS139.alloc | apply IsS139.drewN | apply IsS139.drew | apply IsS139.set_1 | apply IsS139.set_2 | refine IsS139.far ?_ NB243_239.out _ | refine IsS139.far ?_ NB243_252.out _) | exact HI243.out)); (case side2 => repeat (first | (with_reducible first | exact HB.out | apply bal | apply pdn | apply bd1 | refine bst ?_ (IsS139.ge HI243.out) | refine bst ?_ GE239.out | refine bst ?_ GE252.out) | exact HB.out)); rintro e w29 ⟨rfl, hi, hb, hk⟩; refine ⟨_, rfl, ?_⟩; have n0_ := am (Kd.R_mono (Kd.R_keep (IsS139.apart (show IsS139 w _ g243 t240 x244001_1 x244002_1 from by repeat (first | (with_reducible first | exact HI243.out | apply IsS139.alloc | apply IsS139.drewN | apply IsS139.drew | apply IsS139.set_1 | apply IsS139.set_2 | refine IsS139.far ?_ NB243_239.out _ | refine IsS139.far ?_ NB243_252.out _) | exact HI243.out)) (by (with_reducible repeat (first | apply kra | apply krn | apply krd)); exact HO_7.out) (by decide)) hk (fun _ h => h.2)) (fun _ h => h.1)); have n1_ := am (Kd.R_mono (Kd.R_keep (IsS139.apart (show IsS139 w _ g243 t240 x244001_1 x244002_1 from by repeat (first | (with_reducible first | exact HI243.out | apply IsS139.alloc | apply IsS139.drewN | apply IsS139.drew | apply IsS139.set_1 | apply IsS139.set_2 | refine IsS139.far ?_ NB243_239.out _ | refine IsS139.far ?_ NB243_252.out _) | exact HI243.out)) (by (with_reducible repeat (first | apply kra | apply krn | apply krd)); exact HO_253000.out) (by decide)) hk (fun _ h => h.2)) (fun _ h => h.1)); have n2_ := am (Kd.R_mono (Kd.R_keep (IsS139.apart (show IsS139 w _ g243 t240 x244001_1 x244002_1 from by repeat (first | (with_reducible first | exact HI243.out | apply IsS139.alloc | apply IsS139.drewN | apply IsS139.drew | apply IsS139.set_1 | apply IsS139.set_2 | refine IsS139.far ?_ NB243_239.out _ | refine IsS139.far ?_ NB243_252.out _) | exact HI243.out)) (by (with_reducible repeat (first | apply kra | apply krn | apply krd)); exact HO_253001.out) (by decide)) hk (fun _ h => h.2)) (fun _ h => h.1)); have n3_ := am (KeepBut.blk hk (g' := gb239) (o := .cells #[.slice none 0 0, .slice none 0 0] 30 (0, 0)) (by (with_reducible repeat (first | apply kdn | apply kdr | apply kal)); exact BK239.out) NB239_243.out (by simp)); have n4_ := am (KeepBut.blk hk (g' := gb252) (o := .cells #[.slice Ao8 t244.length co8, .slice Ao12 t247.length co12] 30 (0, 0)) (by (with_reducible repeat (first | apply kdn | apply kdr | apply kal)); exact BK252.out) NB252_243.out (by simp)); have n5_ := am (hb); have n6_ := am (hi); clear HO_7; clear HO_253000; clear HO_253001; clear BK239; clear BK252; clear HB; clear HI243; have HO_7 := n0_; have HO_253000 := n1_; have HO_253001 := n2_; have BK239 := n3_; have BK252 := n4_; have HB := n5_; have HI243 := n6_; clear n0_ n1_ n2_ n3_ n4_ n5_ n6_; (try clear hb); (try clear hb2); (try clear hk); (try clear hi)))
       go_roundg kj14
       case measure => have := HK1.out; have := HJ14.out; omega
       case rel => exact ⟨(x7_1), (wrap64 (x8_1 + 1)), (t257), (t258), (by first | rfl | (simp; done) | (simp [*]; done)), H', ⟨by have := HK1.out; have := HJ14.out; omega⟩, ⟨by (with_reducible repeat (first | apply kra | apply krn | apply krd)); exact HO_7.out⟩, ⟨by (with_reducible repeat (first | apply kra | apply krn | apply krd)); exact HO_253000.out⟩, ⟨by (with_reducible repeat (first | apply kra | apply krn | apply krd)); exact HO_253001.out⟩, ⟨by (with_reducible repeat (first | apply kdn | apply kdr | apply kal)); exact BK239.out⟩, ⟨by (with_reducible repeat (first | apply kdn | apply kdr | apply kal)); exact BK252.out⟩, ⟨by repeat (first | (with_reducible first | exact HI243.out | apply IsS139.alloc | apply IsS139.drewN | apply IsS139.drew | apply IsS139.set_1 | apply IsS139.set_2 | refine IsS139.far ?_ NB243_239.out _ | refine IsS139.far ?_ NB243_252.out _) | exact HI243.out)⟩, ⟨by repeat (first | (with_reducible first | exact HB.out | apply bal | apply pdn | apply bd1 | refine bst ?_ (IsS139.ge HI243.out) | refine bst ?_ GE239.out | refine bst ?_ GE252.out) | exact HB.out)⟩⟩
     ·replace c23 := Bool.eq_false_iff.mpr c23
      subst c23
      have H1 : ((spec_l00Src_one.f t240 x244001_1 x244002_1 12).bind fun bt262 => (if bt262.1 = true then ((spec_l00Src_pick.f t240 bt262.2.1 bt262.2.2 6).bind fun bt265 => (if x7_1.length < 17592186044416 then (spec_DrawPowerLoss.j2 kj14 (x7_1 ++ [bt265.1]) t240 bt265.2.1 bt265.2.2 t244 t247) else (none))) else (spec_DrawPowerLoss.j2 kj14 x7_1 t240 bt262.2.1 bt262.2.2 t244 t247))) = some (r1, r2, r3, r4) := by rw [if_neg (show ¬ (false = true) by decide)] at H; exact H
      clear H
      have H := H1
      clear H1
      replace H := Option.bind_eq_some_iff.mp H
      obtain ⟨⟨t262, t263, t264⟩, A300, H⟩ := H
      replace H : (if t262 = true then ((spec_l00Src_pick.f t240 t263 t264 6).bind fun bt265 => (if x7_1.length < 17592186044416 then (spec_DrawPowerLoss.j2 kj14 (x7_1 ++ [bt265.1]) t240 bt265.2.1 bt265.2.2 t244 t247) else (none))) else (spec_DrawPowerLoss.j2 kj14 x7_1 t240 t263 t264 t244 t247)) = some (r1, r2, r3, r4) := H
      have A30 := am A300
      clear A300
      have HC31 := am H
      clear H
      go_upto_if 33 with (first | ((with_reducible refine gate_callee (f := 81) rfl ?_); refine goesL_ (some 33) rfl rfl Try.func81 (by kernel_rfl) rfl #[.pointer (some ⟨g243, 0, none⟩), .int .i64 12] rfl (by (try simp only [mta, mco, mni]); first | done | rfl | (simp only [lnd, lnt]; rfl)) ?_; (with_reducible refine (spec_l00Src_one.calls g243 t240 x244001_1 x244002_1 12 t262 t263 t264 w _ ?side1 ?side2 A30.out).mono ?_); (case side1 => repeat (first | (with_reducible first | exact HI243.out | apply IsS139.alloc | apply IsS139.drewN | apply IsS139.drew | apply IsS139.set_1 | apply IsS139.set_2 | refine IsS139.far ?_ NB243_239.out _ | refine IsS139.far ?_ NB243_252.out _) | exact HI243.out)); (case side2 => repeat (first | (with_reducible first | exact HB.out | apply bal | apply pdn | apply bd1 | refine bst ?_ (IsS139.ge HI243.out) | refine bst ?_ GE239.out | refine bst ?_ GE252.out) | exact HB.out)); rintro e w32 ⟨rfl, hi, hb, hk⟩; refine ⟨_, rfl, ?_⟩; have n0_ := am (Kd.R_mono (Kd.R_keep (IsS139.apart (show IsS139 w _ g243 t240 x244001_1 x244002_1 from by repeat (first | (with_reducible first | exact HI243.out | apply IsS139.alloc | apply IsS139.drewN | apply IsS139.drew | apply IsS139.set_1 | apply IsS139.set_2 | refine IsS139.far ?_ NB243_239.out _ | refine IsS139.far ?_ NB243_252.out _) | exact HI243.out)) (by (with_reducible repeat (first | apply kra | apply krn | apply krd)); exact HO_7.out) (by decide)) hk (fun _ h => h.2)) (fun _ h => h.1)); have n1_ := am (Kd.R_mono (Kd.R_keep (IsS139.apart (show IsS139 w _ g243 t240 x244001_1 x244002_1 from by repeat (first | (with_reducible first | exact HI243.out | apply IsS139.alloc | apply IsS139.drewN | apply IsS139.drew | apply IsS139.set_1 | apply IsS139.set_2 | refine IsS139.far ?_ NB243_239.out _ | refine IsS139.far ?_ NB243_252.out _) | exact HI243.out)) (by (with_reducible repeat (first | apply kra | apply krn | apply krd)); exact HO_253000.out) (by decide)) hk (fun _ h => h.2)) (fun _ h => h.1)); have n2_ := am (Kd.R_mono (Kd.R_keep (IsS139.apart (show IsS139 w _ g243 t240 x244001_1 x244002_1 from by repeat (first | (with_reducible first | exact HI243.out | apply IsS139.alloc | apply IsS139.drewN | apply IsS139.drew | apply IsS139.set_1 | apply IsS139.set_2 | refine IsS139.far ?_ NB243_239.out _ | refine IsS139.far ?_ NB243_252.out _) | exact HI243.out)) (by (with_reducible repeat (first | apply kra | apply krn | apply krd)); exact HO_253001.out) (by decide)) hk (fun _ h => h.2)) (fun _ h => h.1)); have n3_ := am (KeepBut.blk hk (g' := gb239) (o := .cells #[.slice none 0 0, .slice none 0 0] 30 (0, 0)) (by (with_reducible repeat (first | apply kdn | apply kdr | apply kal)); exact BK239.out) NB239_243.out (by simp)); have n4_ := am (KeepBut.blk hk (g' := gb252) (o := .cells #[.slice Ao8 t244.length co8, .slice Ao12 t247.length co12] 30 (0, 0)) (by (with_reducible repeat (first | apply kdn | apply kdr | apply kal)); exact BK252.out) NB252_243.out (by simp)); have n5_ := am (hb); have n6_ := am (hi); clear HO_7; clear HO_253000; clear HO_253001; clear BK239; clear BK252; clear HB; clear HI243; have HO_7 := n0_; have HO_253000 := n1_; have HO_253001 := n2_; have BK239 := n3_; have BK252 := n4_; have HB := n5_; have HI243 := n6_; clear n0_ n1_ n2_ n3_ n4_ n5_ n6_; (try clear hb); (try clear hb2); (try clear hk); (try clear hi)))
      (try simp only [Act.put, sit, scz, scs])
      go_cut [7] (fun v7 wc => ∃ (kq : Nat) (x7_30 : List Int) (x244001_30 : Int) (x244002_30 : Int), Aside0 (spec_DrawPowerLoss.j2 kq x7_30 t240 x244001_30 x244002_30 t244 t247 = some (r1, r2, r3, r4)) ∧ Aside0 (kq ≤ kj14) ∧ Aside0 (Kd.R (Kd.int .i64) 2 wc w.heap.size (fun _ => True) v7 x7_30) ∧ Aside0 (Kd.R Kd.string 9 wc w.heap.size (fun _ => True) (.slice Ao8 t244.length co8) t244) ∧ Aside0 (Kd.R k55 55 wc w.heap.size (fun _ => True) (.slice Ao12 t247.length co12) t247) ∧ Aside0 (wc.heap[gb239]? = some (.cells #[(.slice none 0 0), (.slice none 0 0)] 30 (0, 0))) ∧ Aside0 (wc.heap[gb252]? = some (.cells #[(.slice Ao8 t244.length co8), (.slice Ao12 t247.length co12)] 30 (0, 0))) ∧ Aside0 (IsS139 w wc g243 t240 x244001_30 x244002_30) ∧ Aside0 (Below w.heap.size w wc))
      case first =>
       have H := HC31.out
       clear HC31
       by_cases c33 : t262 = true
       ·subst c33
        have H1 : ((spec_l00Src_pick.f t240 t263 t264 6).bind fun bt265 => (if x7_1.length < 17592186044416 then (spec_DrawPowerLoss.j2 kj14 (x7_1 ++ [bt265.1]) t240 bt265.2.1 bt265.2.2 t244 t247) else (none))) = some (r1, r2, r3, r4) := by rw [if_pos rfl] at H; exact H
        clear H
        have H := H1
        clear H1
        replace H := Option.bind_eq_some_iff.mp H
        obtain ⟨⟨t265, t266, t267⟩, A340, H⟩ := H
        replace H : (if x7_1.length < 17592186044416 then (spec_DrawPowerLoss.j2 kj14 (x7_1 ++ [t265]) t240 t266 t267 t244 t247) else (none)) = some (r1, r2, r3, r4) := H
        have A34 := am A340
        clear A340
        by_cases c35 : x7_1.length < 17592186044416
        ·rw [if_pos c35] at H
         have LMc35 := am c35
         clear c35
         obtain ⟨y268, hy268⟩ : ∃ y_ : List Int, y_ = (x7_1 ++ [t265]) := ⟨_, rfl⟩
         replace H : (spec_DrawPowerLoss.j2 kj14 y268 t240 t266 t267 t244 t247) = some (r1, r2, r3, r4) := by first | (rw [hy268]; with_reducible exact H) | (have H2_ := (Option.bind_some _ _).symm.trans H; rw [hy268]; with_reducible exact H2_) | (have H2_ := (Option.bind_some _ _).symm.trans H; with_reducible exact H2_) | with_reducible exact H | (rw [hy268]; exact H) | exact H
         have Ny268 := am hy268
         clear hy268
         have H' := am H
         clear H
         go_wp2_with (first | ((with_reducible refine gate_callee (f := 82) rfl ?_); refine goesL_ (some 36) rfl rfl Try.func82 (by kernel_rfl) rfl #[.pointer (some ⟨g243, 0, none⟩), .int .i64 6] rfl (by (try simp only [mta, mco, mni]); first | done | rfl | (simp only [lnd, lnt]; rfl)) ?_; (with_reducible refine (spec_l00Src_pick.calls g243 t240 t263 t264 6 t265 t266 t267 w _ ?side1 ?side2 A34.out).mono ?_); (case side1 => repeat (first | (with_reducible first | exact HI243.out | apply IsS139.alloc | apply IsS139.drewN | apply IsS139.drew | apply IsS139.set_1 | apply IsS139.set_2 | refine IsS139.far ?_ NB243_239.out _ | refine IsS139.far ?_ NB243_252.out _) | exact HI243.out)); (case side2 => repeat (first | (with_reducible first | exact HB.out | apply bal | apply pdn | apply bd1 | refine bst ?_ (IsS139.ge HI243.out) | refine bst ?_ GE239.out | refine bst ?_ GE252.out) | exact HB.out)); rintro e w36 ⟨rfl, hi, hb, hk⟩; refine ⟨_, rfl, ?_⟩; have n0_ := am (Kd.R_mono (Kd.R_keep (IsS139.apart (show IsS139 w _ g243 t240 t263 t264 from by repeat (first | (with_reducible first | exact HI243.out | apply IsS139.alloc | apply IsS139.drewN | apply IsS139.drew | apply IsS139.set_1 | apply IsS139.set_2 | refine IsS139.far ?_ NB243_239.out _ | refine IsS139.far ?_ NB243_252.out _) | exact HI243.out)) (by (with_reducible repeat (first | apply kra | apply krn | apply krd)); exact HO_7.out) (by decide)) hk (fun _ h => h.2)) (fun _ h => h.1)); have n1_ := am (Kd.R_mono (Kd.R_keep (IsS139.apart (show IsS139 w _ g243 t240 t263 t264 from by repeat (first | (with_reducible first | exact HI243.out | apply IsS139.alloc | apply IsS139.drewN | apply IsS139.drew | apply IsS139.set_1 | apply IsS139.set_2 | refine IsS139.far ?_ NB243_239.out _ | refine IsS139.far ?_ NB243_252.out _) | exact HI243.out)) (by (with_reducible repeat (first | apply kra | apply krn | apply krd)); exact HO_253000.out) (by decide)) hk (fun _ h => h.2)) (fun _ h => h.1)); have n2_ := am (Kd.R_mono (Kd.R_keep (IsS139.apart (show IsS139 w _ g243 t240 t263 t264 from by repeat (first | (with_reducible first | exact HI243.out | apply IsS139.alloc | apply IsS139.drewN | apply IsS139.drew | apply IsS139.set_1 | apply IsS139.set_2 | refine IsS139.far ?_ NB243_239.out _ | refine IsS139.far ?_ NB243_252.out _) | exact HI243.out)) (by (with_reducible repeat (first | apply kra | apply krn | apply krd)); exact HO_253001.out) (by decide)) hk (fun _ h => h.2)) (fun _ h => h.1)); have n3_ := am (KeepBut.blk hk (g' := gb239) (o := .cells #[.slice none 0 0, .slice none 0 0] 30 (0, 0)) (by (with_reducible repeat (first | apply kdn | apply kdr | apply kal)); exact BK239.out) NB239_243.out (by simp)); have n4_ := am (KeepBut.blk hk (g' := gb252) (o := .cells #[.slice Ao8 t244.length co8, .slice Ao12 t247.length co12] 30 (0, 0)) (by (with_reducible repeat (first | apply kdn | apply kdr | apply kal)); exact BK252.out) NB252_243.out (by simp)); have n5_ := am (hb); have n6_ := am (hi); clear HO_7; clear HO_253000; clear HO_253001; clear BK239; clear BK252; clear HB; clear HI243; have HO_7 := n0_; have HO_253000 := n1_; have HO_253001 := n2_; have BK239 := n3_; have BK252 := n4_; have HB := n5_; have HI243 := n6_; clear n0_ n1_ n2_ n3_ n4_ n5_ n6_; (try clear hb); (try clear hb2); (try clear hk); (try clear hi)) | ((with_reducible refine gate_builtin (b := .append) (xs := #[.tmp 34, .tmp 37]) rfl ?_); at_builtin; refine Kd.R_append (Kd.int .i64) (w0 := w) w.heap.size rfl (.tmp 34) (.tmp 37) 42 2 (.int .i64 0) 8 rfl Try.underlying42 info2 rfl (by decide) (by omega) u7 x7_1 t265 [.int .i64 t265] (fun _ => True) (fun _ => False) rfl rfl ?aP (fun _ hk => hk.elim) ?aF ?aO ?aB ?aS ?aL ?_; (case aP => exact rfl); (case aB => exact (by repeat (first | (with_reducible first | exact HB.out | apply bal | apply pdn | apply bd1 | refine bst ?_ (IsS139.ge HI243.out) | refine bst ?_ GE239.out | refine bst ?_ GE252.out) | exact HB.out))); (case aF => exact (fun _ _ => trivial)); (case aO => exact (by (with_reducible repeat (first | apply kra | apply krn | apply krd)); exact HO_7.out)); (case aS => exact (below_size (by repeat (first | (with_reducible first | exact HB.out | apply bal | apply pdn | apply bd1 | refine bst ?_ (IsS139.ge HI243.out) | refine bst ?_ GE239.out | refine bst ?_ GE252.out) | exact HB.out)))); (case aL => have := LMc35.out; omega); intro v269 w37 ho hb hg hat; rw [← Ny268.out] at ho; have n0_ := am (Kd.R_over' (by (with_reducible repeat (first | apply kra | apply krn | apply krd)); exact HO_253000.out) (Kd.R_typed (by (with_reducible repeat (first | apply kra | apply krn | apply krd)); exact HO_7.out)) (by decide) hg); have n1_ := am (Kd.R_over' (by (with_reducible repeat (first | apply kra | apply krn | apply krd)); exact HO_253001.out) (Kd.R_typed (by (with_reducible repeat (first | apply kra | apply krn | apply krd)); exact HO_7.out)) (by decide) hg); have n2_ := am (blk_grown (g := gb239) (o := .cells #[.slice none 0 0, .slice none 0 0] 30 (0, 0)) (by (with_reducible repeat (first | apply kdn | apply kdr | apply kal)); exact BK239.out) hg (Kd.R_ne HO_7.out BK239.out (by decide))); have n3_ := am (blk_grown (g := gb252) (o := .cells #[.slice Ao8 t244.length co8, .slice Ao12 t247.length co12] 30 (0, 0)) (by (with_reducible repeat (first | apply kdn | apply kdr | apply kal)); exact BK252.out) hg (Kd.R_ne HO_7.out BK252.out (by decide))); have n4_ := am (IsS139.grown (by repeat (first | (with_reducible first | exact HI243.out | apply IsS139.alloc | apply IsS139.drewN | apply IsS139.drew | apply IsS139.set_1 | apply IsS139.set_2 | refine IsS139.far ?_ NB243_239.out _ | refine IsS139.far ?_ NB243_252.out _) | exact HI243.out)) hg (IsS139.own_ne HI243.out HO_7.out (by decide))); have n5_ := am (hb); have n6_ := am (ho); clear HO_253000; clear HO_253001; clear BK239; clear BK252; clear HI243; clear HB; clear HO_7; have HO_253000 := n0_; have HO_253001 := n1_; have BK239 := n2_; have BK252 := n3_; have HI243 := n4_; have HB := n5_; have HO270 := n6_; clear n0_ n1_ n2_ n3_ n4_ n5_ n6_; clear ho hb hg hat))
         go_meet
         case rel => exact ⟨_, (y268), (t266), (t267), H', ⟨by have := HK1.out; have := HJ14.out; first | omega | exact Nat.le_refl _⟩, ⟨by (with_reducible repeat (first | apply kra | apply krn | apply krd)); exact HO270.out⟩, ⟨by (with_reducible repeat (first | apply kra | apply krn | apply krd)); exact HO_253000.out⟩, ⟨by (with_reducible repeat (first | apply kra | apply krn | apply krd)); exact HO_253001.out⟩, ⟨by (with_reducible repeat (first | apply kdn | apply kdr | apply kal)); exact BK239.out⟩, ⟨by (with_reducible repeat (first | apply kdn | apply kdr | apply kal)); exact BK252.out⟩, ⟨by repeat (first | (with_reducible first | exact HI243.out | apply IsS139.alloc | apply IsS139.drewN | apply IsS139.drew | apply IsS139.set_1 | apply IsS139.set_2 | refine IsS139.far ?_ NB243_239.out _ | refine IsS139.far ?_ NB243_252.out _) | exact HI243.out)⟩, ⟨by repeat (first | (with_reducible first | exact HB.out | apply bal | apply pdn | apply bd1 | refine bst ?_ (IsS139.ge HI243.out) | refine bst ?_ GE239.out | refine bst ?_ GE252.out) | exact HB.out)⟩⟩
        ·rw [if_neg c35] at H
         exact absurd H (by simp)
       ·replace c33 := Bool.eq_false_iff.mpr c33
        subst c33
        have H1 : (spec_DrawPowerLoss.j2 kj14 x7_1 t240 t263 t264 t244 t247) = some (r1, r2, r3, r4) := by rw [if_neg (show ¬ (false = true) by decide)] at H; exact H
        clear H
        have H := H1
        clear H1
        have H' := am H
        clear H
        go_wp2
        go_meet
        case rel => exact ⟨_, (x7_1), (t263), (t264), H', ⟨by have := HK1.out; have := HJ14.out; first | omega | exact Nat.le_refl _⟩, ⟨by (with_reducible repeat (first | apply kra | apply krn | apply krd)); exact HO_7.out⟩, ⟨by (with_reducible repeat (first | apply kra | apply krn | apply krd)); exact HO_253000.out⟩, ⟨by (with_reducible repeat (first | apply kra | apply krn | apply krd)); exact HO_253001.out⟩, ⟨by (with_reducible repeat (first | apply kdn | apply kdr | apply kal)); exact BK239.out⟩, ⟨by (with_reducible repeat (first | apply kdn | apply kdr | apply kal)); exact BK252.out⟩, ⟨by repeat (first | (with_reducible first | exact HI243.out | apply IsS139.alloc | apply IsS139.drewN | apply IsS139.drew | apply IsS139.set_1 | apply IsS139.set_2 | refine IsS139.far ?_ NB243_239.out _ | refine IsS139.far ?_ NB243_252.out _) | exact HI243.out)⟩, ⟨by repeat (first | (with_reducible first | exact HB.out | apply bal | apply pdn | apply bd1 | refine bst ?_ (IsS139.ge HI243.out) | refine bst ?_ GE239.out | refine bst ?_ GE252.out) | exact HB.out)⟩⟩
      case rest =>
       clear HC31
       obtain ⟨kq, x7_30, x244001_30, x244002_30, HA, HJ30, HO_7, HO_253000, HO_253001, BK239, BK252, HI243, HB⟩ := hcut
       cases kq with
       | zero => exact absurd HA.out (by simp [spec_DrawPowerLoss.j2])
       | succ kj30 =>
        have H := HA.out
        clear HA
        simp only [spec_DrawPowerLoss.j2] at H
        replace H := Option.bind_eq_some_iff.mp H
        obtain ⟨⟨t271, t272, t273⟩, A380, H⟩ := H
        replace H : (if t271 = true then ((spec_l00Src_pick.f t240 t272 t273 66).bind fun bt274 => (some (t244, t247, x7_30, bt274.1))) else (some (t244, t247, x7_30, (-1)))) = some (r1, r2, r3, r4) := H
        have A38 := am A380
        clear A380
        by_cases c39 : t271 = true
        ·subst c39
         have H1 : ((spec_l00Src_pick.f t240 t272 t273 66).bind fun bt274 => (some (t244, t247, x7_30, bt274.1))) = some (r1, r2, r3, r4) := by rw [if_pos rfl] at H; exact H
         clear H
         have H := H1
         clear H1
         replace H := Option.bind_eq_some_iff.mp H
         obtain ⟨⟨t274, t275, t276⟩, A400, H⟩ := H
         replace H : (some (t244, t247, x7_30, t274)) = some (r1, r2, r3, r4) := H
         have A40 := am A400
         clear A400
         simp only [Option.some.injEq, Prod.mk.injEq] at H
         obtain ⟨rfl, rfl, rfl, rfl⟩ := H
         go_wp2_with (first | ((with_reducible refine gate_callee (f := 81) rfl ?_); refine goesL_ (some 40) rfl rfl Try.func81 (by kernel_rfl) rfl #[.pointer (some ⟨g243, 0, none⟩), .int .i64 2] rfl (by (try simp only [mta, mco, mni]); first | done | rfl | (simp only [lnd, lnt]; rfl)) ?_; (with_reducible refine (spec_l00Src_one.calls g243 t240 x244001_30 x244002_30 2 true t272 t273 w _ ?side1 ?side2 A38.out).mono ?_); (case side1 => repeat (first | (with_reducible first | exact HI243.out | apply IsS139.alloc | apply IsS139.drewN | apply IsS139.drew | apply IsS139.set_1 | apply IsS139.set_2 | refine IsS139.far ?_ NB243_239.out _ | refine IsS139.far ?_ NB243_252.out _) | exact HI243.out)); (case side2 => repeat (first | (with_reducible first | exact HB.out | apply bal | apply pdn | apply bd1 | refine bst ?_ (IsS139.ge HI243.out) | refine bst ?_ GE239.out | refine bst ?_ GE252.out) | exact HB.out)); rintro e w41 ⟨rfl, hi, hb, hk⟩; refine ⟨_, rfl, ?_⟩; have n0_ := am (Kd.R_mono (Kd.R_keep (IsS139.apart (show IsS139 w _ g243 t240 x244001_30 x244002_30 from by repeat (first | (with_reducible first | exact HI243.out | apply IsS139.alloc | apply IsS139.drewN | apply IsS139.drew | apply IsS139.set_1 | apply IsS139.set_2 | refine IsS139.far ?_ NB243_239.out _ | refine IsS139.far ?_ NB243_252.out _) | exact HI243.out)) (by (with_reducible repeat (first | apply kra | apply krn | apply krd)); exact HO_7.out) (by decide)) hk (fun _ h => h.2)) (fun _ h => h.1)); have n1_ := am (Kd.R_mono (Kd.R_keep (IsS139.apart (show IsS139 w _ g243 t240 x244001_30 x244002_30 from by repeat (first | (with_reducible first | exact HI243.out | apply IsS139.alloc | apply IsS139.drewN | apply IsS139.drew | apply IsS139.set_1 | apply IsS139.set_2 | refine IsS139.far ?_ NB243_239.out _ | refine IsS139.far ?_ NB243_252.out _) | exact HI243.out)) (by (with_reducible repeat (first | apply kra | apply krn | apply krd)); exact HO_253000.out) (by decide)) hk (fun _ h => h.2)) (fun _ h => h.1)); have n2_ := am (Kd.R_mono (Kd.R_keep (IsS139.apart (show IsS139 w _ g243 t240 x244001_30 x244002_30 from by repeat (first | (with_reducible first | exact HI243.out | apply IsS139.alloc | apply IsS139.drewN | apply IsS139.drew | apply IsS139.set_1 | apply IsS139.set_2 | refine IsS139.far ?_ NB243_239.out _ | refine IsS139.far ?_ NB243_252.out _) | exact HI243.out)) (by (with_reducible repeat (first | apply kra | apply krn | apply krd)); exact HO_253001.out) (by decide)) hk (fun _ h => h.2)) (fun _ h => h.1)); have n3_ := am (KeepBut.blk hk (g' := gb239) (o := .cells #[.slice none 0 0, .slice none 0 0] 30 (0, 0)) (by (with_reducible repeat (first | apply kdn | apply kdr | apply kal)); exact BK239.out) NB239_243.out (by simp)); have n4_ := am (KeepBut.blk hk (g' := gb252) (o := .cells #[.slice Ao8 t244.length co8, .slice Ao12 t247.length co12] 30 (0, 0)) (by (with_reducible repeat (first | apply kdn | apply kdr | apply kal)); exact BK252.out) NB252_243.out (by simp)); have n5_ := am (hb); have n6_ := am (hi); clear HO_7; clear HO_253000; clear HO_253001; clear BK239; clear BK252; clear HB; clear HI243; have HO_7 := n0_; have HO_253000 := n1_; have HO_253001 := n2_; have BK239 := n3_; have BK252 := n4_; have HB := n5_; have HI243 := n6_; clear n0_ n1_ n2_ n3_ n4_ n5_ n6_; (try clear hb); (try clear hb2); (try clear hk); (try clear hi)) | ((with_reducible refine gate_callee (f := 82) rfl ?_); refine goesL_ (some 42) rfl rfl Try.func82 (by kernel_rfl) rfl #[.pointer (some ⟨g243, 0, none⟩), .int .i64 66] rfl (by (try simp only [mta, mco, mni]); first | done | rfl | (simp only [lnd, lnt]; rfl)) ?_; (with_reducible refine (spec_l00Src_pick.calls g243 t240 t272 t273 66 t274 t275 t276 w _ ?side1 ?side2 A40.out).mono ?_); (case side1 => repeat (first | (with_reducible first | exact HI243.out | apply IsS139.alloc | apply IsS139.drewN | apply IsS139.drew | apply IsS139.set_1 | apply IsS139.set_2 | refine IsS139.far ?_ NB243_239.out _ | refine IsS139.far ?_ NB243_252.out _) | exact HI243.out)); (case side2 => repeat (first | (with_reducible first | exact HB.out | apply bal | apply pdn | apply bd1 | refine bst ?_ (IsS139.ge HI243.out) | refine bst ?_ GE239.out | refine bst ?_ GE252.out) | exact HB.out)); rintro e w42 ⟨rfl, hi, hb, hk⟩; refine ⟨_, rfl, ?_⟩; have n0_ := am (Kd.R_mono (Kd.R_keep (IsS139.apart (show IsS139 w _ g243 t240 t272 t273 from by repeat (first | (with_reducible first | exact HI243.out | apply IsS139.alloc | apply IsS139.drewN | apply IsS139.drew | apply IsS139.set_1 | apply IsS139.set_2 | refine IsS139.far ?_ NB243_239.out _ | refine IsS139.far ?_ NB243_252.out _) | exact HI243.out)) (by (with_reducible repeat (first | apply kra | apply krn | apply krd)); exact HO_7.out) (by decide)) hk (fun _ h => h.2)) (fun _ h => h.1)); have n1_ := am (Kd.R_mono (Kd.R_keep (IsS139.apart (show IsS139 w _ g243 t240 t272 t273 from by repeat (first | (with_reducible first | exact HI243.out | apply IsS139.alloc | apply IsS139.drewN | apply IsS139.drew | apply IsS139.set_1 | apply IsS139.set_2 | refine IsS139.far ?_ NB243_239.out _ | refine IsS139.far ?_ NB243_252.out _) | exact HI243.out)) (by (with_reducible repeat (first | apply kra | apply krn | apply krd)); exact HO_253000.out) (by decide)) hk (fun _ h => h.2)) (fun _ h => h.1)); have n2_ := am (Kd.R_mono (Kd.R_keep (IsS139.apart (show IsS139 w _ g243 t240 t272 t273 from by repeat (first | (with_reducible first | exact HI243.out | apply IsS139.alloc | apply IsS139.drewN | apply IsS139.drew | apply IsS139.set_1 | apply IsS139.set_2 | refine IsS139.far ?_ NB243_239.out _ | refine IsS139.far ?_ NB243_252.out _) | exact HI243.out)) (by (with_reducible repeat (first | apply kra | apply krn | apply krd)); exact HO_253001.out) (by decide)) hk (fun _ h => h.2)) (fun _ h => h.1)); have n3_ := am (KeepBut.blk hk (g' := gb239) (o := .cells #[.slice none 0 0, .slice none 0 0] 30 (0, 0)) (by (with_reducible repeat (first | apply kdn | apply kdr | apply kal)); exact BK239.out) NB239_243.out (by simp)); have n4_ := am (KeepBut.blk hk (g' := gb252) (o := .cells #[.slice Ao8 t244.length co8, .slice Ao12 t247.length co12] 30 (0, 0)) (by (with_reducible repeat (first | apply kdn | apply kdr | apply kal)); exact BK252.out) NB252_243.out (by simp)); have n5_ := am (hb); have n6_ := am (hi); clear HO_7; clear HO_253000; clear HO_253001; clear BK239; clear BK252; clear HB; clear HI243; have HO_7 := n0_; have HO_253000 := n1_; have HO_253001 := n2_; have BK239 := n3_; have BK252 := n4_; have HB := n5_; have HI243 := n6_; clear n0_ n1_ n2_ n3_ n4_ n5_ n6_; (try clear hb); (try clear hb2); (try clear hk); (try clear hi); have hnb43 := NB252_239.out; have hnc43 := NB239_252.out; have hnb44 := NB252_243.out; have hnc44 := NB243_252.out; have hcz45_0 : w42.cell? ⟨gb252, 0, none⟩ = some (.slice Ao8 t244.length co8) := (kce BK252.out 0).trans rfl; have hcz45_1 : w42.cell? ⟨gb252, 1, none⟩ = some (.slice Ao12 t247.length co12) := (kce BK252.out 1).trans rfl; have hfz45_0 := kfr BK252.out 0; have hfz45_1 := kfr BK252.out 1; have hnb46 := NB239_243.out; have hnc46 := NB243_239.out; have hcz47_0 : w42.cell? ⟨gb239, 0, none⟩ = some (.slice none 0 0) := (kce BK239.out 0).trans rfl; have hcz47_1 : w42.cell? ⟨gb239, 1, none⟩ = some (.slice none 0 0) := (kce BK239.out 1).trans rfl; have hfz47_0 := kfr BK239.out 0; have hfz47_1 := kfr BK239.out 1))
         refine bodyPost_ret (results_ctt rfl _ _ gb239 30 #[.slice Ao8 t244.length co8, .slice Ao12 t247.length co12] (0, 0) _ rfl (by (with_reducible repeat (first | apply kdn | apply kdr | apply kal)); refine blk_put (cs := #[.slice Ao8 t244.length co8, .slice none 0 0]) ?_ 1 _ rfl; (with_reducible repeat (first | apply kdn | apply kdr | apply kal)); refine blk_put (cs := #[.slice none 0 0, .slice none 0 0]) ?_ 0 _ rfl; (with_reducible repeat (first | apply kdn | apply kdr | apply kal)); exact BK239.out) Try.underlying30 rfl (by kernel_rfl)) rfl ?_
         exact ⟨_, _, _, by first | rfl | (simp [errW_none, errW_some] <;> rfl) | (simp [*, errW_none, errW_some] <;> rfl), by (with_reducible repeat (first | apply kra | apply krn | apply krd)); exact Kd.R_mono (kfa (p := ⟨gb239, 1, none⟩) (kfa (p := ⟨gb239, 0, none⟩) (Kd.R_types HO_253000.out BK239.out (by decide)) (fun _ hk => hk.2) (.slice Ao8 t244.length co8)) (fun _ hk => hk.2) (.slice Ao12 t247.length co12)) (fun _ hk => trivial), by (with_reducible repeat (first | apply kra | apply krn | apply krd)); exact Kd.R_mono (kfa (p := ⟨gb239, 1, none⟩) (kfa (p := ⟨gb239, 0, none⟩) (Kd.R_types HO_253001.out BK239.out (by decide)) (fun _ hk => hk.2) (.slice Ao8 t244.length co8)) (fun _ hk => hk.2) (.slice Ao12 t247.length co12)) (fun _ hk => trivial), by (with_reducible repeat (first | apply kra | apply krn | apply krd)); exact Kd.R_mono (kfa (p := ⟨gb239, 1, none⟩) (kfa (p := ⟨gb239, 0, none⟩) (Kd.R_types HO_7.out BK239.out (by decide)) (fun _ hk => hk.2) (.slice Ao8 t244.length co8)) (fun _ hk => hk.2) (.slice Ao12 t247.length co12)) (fun _ hk => trivial), by repeat (first | (with_reducible first | exact HB.out | apply bal | apply pdn | apply bd1 | refine bst ?_ (IsS139.ge HI243.out) | refine bst ?_ GE239.out | refine bst ?_ GE252.out) | exact HB.out)⟩
        ·replace c39 := Bool.eq_false_iff.mpr c39
         subst c39
         have H1 : (some (t244, t247, x7_30, (-1))) = some (r1, r2, r3, r4) := by rw [if_neg (show ¬ (false = true) by decide)] at H; exact H
         clear H
         have H := H1
         clear H1
         simp only [Option.some.injEq, Prod.mk.injEq] at H
         obtain ⟨rfl, rfl, rfl, rfl⟩ := H
         go_wp2_with (first | ((with_reducible refine gate_callee (f := 81) rfl ?_); refine goesL_ (some 40) rfl rfl Try.func81 (by kernel_rfl) rfl #[.pointer (some ⟨g243, 0, none⟩), .int .i64 2] rfl (by (try simp only [mta, mco, mni]); first | done | rfl | (simp only [lnd, lnt]; rfl)) ?_; (with_reducible refine (spec_l00Src_one.calls g243 t240 x244001_30 x244002_30 2 false t272 t273 w _ ?side1 ?side2 A38.out).mono ?_); (case side1 => repeat (first | (with_reducible first | exact HI243.out | apply IsS139.alloc | apply IsS139.drewN | apply IsS139.drew | apply IsS139.set_1 | apply IsS139.set_2 | refine IsS139.far ?_ NB243_239.out _ | refine IsS139.far ?_ NB243_252.out _) | exact HI243.out)); (case side2 => repeat (first | (with_reducible first | exact HB.out | apply bal | apply pdn | apply bd1 | refine bst ?_ (IsS139.ge HI243.out) | refine bst ?_ GE239.out | refine bst ?_ GE252.out) | exact HB.out)); rintro e w48 ⟨rfl, hi, hb, hk⟩; refine ⟨_, rfl, ?_⟩; have n0_ := am (Kd.R_mono (Kd.R_keep (IsS139.apart (show IsS139 w _ g243 t240 x244001_30 x244002_30 from by repeat (first | (with_reducible first | exact HI243.out | apply IsS139.alloc | apply IsS139.drewN | apply IsS139.drew | apply IsS139.set_1 | apply IsS139.set_2 | refine IsS139.far ?_ NB243_239.out _ | refine IsS139.far ?_ NB243_252.out _) | exact HI243.out)) (by (with_reducible repeat (first | apply kra | apply krn | apply krd)); exact HO_7.out) (by decide)) hk (fun _ h => h.2)) (fun _ h => h.1)); have n1_ := am (Kd.R_mono (Kd.R_keep (IsS139.apart (show IsS139 w _ g243 t240 x244001_30 x244002_30 from by repeat (first | (with_reducible first | exact HI243.out | apply IsS139.alloc | apply IsS139.drewN | apply IsS139.drew | apply IsS139.set_1 | apply IsS139.set_2 | refine IsS139.far ?_ NB243_239.out _ | refine IsS139.far ?_ NB243_252.out _) | exact HI243.out)) (by (with_reducible repeat (first | apply kra | apply krn | apply krd)); exact HO_253000.out) (by decide)) hk (fun _ h => h.2)) (fun _ h => h.1)); have n2_ := am (Kd.R_mono (Kd.R_keep (IsS139.apart (show IsS139 w _ g243 t240 x244001_30 x244002_30 from by repeat (first | (with_reducible first | exact HI243.out | apply IsS139.alloc | apply IsS139.drewN | apply IsS139.drew | apply IsS139.set_1 | apply IsS139.set_2 | refine IsS139.far ?_ NB243_239.out _ | refine IsS139.far ?_ NB243_252.out _) | exact HI243.out)) (by (with_reducible repeat (first | apply kra | apply krn | apply krd)); exact HO_253001.out) (by decide)) hk (fun _ h => h.2)) (fun _ h => h.1)); have n3_ := am (KeepBut.blk hk (g' := gb239) (o := .cells #[.slice none 0 0, .slice none 0 0] 30 (0, 0)) (by (with_reducible repeat (first | apply kdn | apply kdr | apply kal)); exact BK239.out) NB239_243.out (by simp)); have n4_ := am (KeepBut.blk hk (g' := gb252) (o := .cells #[.slice Ao8 t244.length co8, .slice Ao12 t247.length co12] 30 (0, 0)) (by (with_reducible repeat (first | apply kdn | apply kdr | apply kal)); exact BK252.out) NB252_243.out (by simp)); have n5_ := am (hb); have n6_ := am (hi); clear HO_7; clear HO_253000; clear HO_253001; clear BK239; clear BK252; clear HB; clear HI243; have HO_7 := n0_; have HO_253000 := n1_; have HO_253001 := n2_; have BK239 := n3_; have BK252 := n4_; have HB := n5_; have HI243 := n6_; clear n0_ n1_ n2_ n3_ n4_ n5_ n6_; (try clear hb); (try clear hb2); (try clear hk); (try clear hi); have hnb49 := NB252_239.out; have hnc49 := NB239_252.out; have hnb50 := NB252_243.out; have hnc50 := NB243_252.out; have hcz51_0 : w48.cell? ⟨gb252, 0, none⟩ = some (.slice Ao8 t244.length co8) := (kce BK252.out 0).trans rfl; have hcz51_1 : w48.cell? ⟨gb252, 1, none⟩ = some (.slice Ao12 t247.length co12) := (kce BK252.out 1).trans rfl; have hfz51_0 := kfr BK252.out 0; have hfz51_1 := kfr BK252.out 1; have hnb52 := NB239_243.out; have hnc52 := NB243_239.out; have hcz53_0 : w48.cell? ⟨gb239, 0, none⟩ = some (.slice none 0 0) := (kce BK239.out 0).trans rfl; have hcz53_1 : w48.cell? ⟨gb239, 1, none⟩ = some (.slice none 0 0) := (kce BK239.out 1).trans rfl; have hfz53_0 := kfr BK239.out 0; have hfz53_1 := kfr BK239.out 1))
         refine bodyPost_ret (results_ctt rfl _ _ gb239 30 #[.slice Ao8 t244.length co8, .slice Ao12 t247.length co12] (0, 0) _ rfl (by (with_reducible repeat (first | apply kdn | apply kdr | apply kal)); refine blk_put (cs := #[.slice Ao8 t244.length co8, .slice none 0 0]) ?_ 1 _ rfl; (with_reducible repeat (first | apply kdn | apply kdr | apply kal)); refine blk_put (cs := #[.slice none 0 0, .slice none 0 0]) ?_ 0 _ rfl; (with_reducible repeat (first | apply kdn | apply kdr | apply kal)); exact BK239.out) Try.underlying30 rfl (by kernel_rfl)) rfl ?_
         exact ⟨_, _, _, by first | rfl | (simp [errW_none, errW_some] <;> rfl) | (simp [*, errW_none, errW_some] <;> rfl), by (with_reducible repeat (first | apply kra | apply krn | apply krd)); exact Kd.R_mono (kfa (p := ⟨gb239, 1, none⟩) (kfa (p := ⟨gb239, 0, none⟩) (Kd.R_types HO_253000.out BK239.out (by decide)) (fun _ hk => hk.2) (.slice Ao8 t244.length co8)) (fun _ hk => hk.2) (.slice Ao12 t247.length co12)) (fun _ hk => trivial), by (with_reducible repeat (first | apply kra | apply krn | apply krd)); exact Kd.R_mono (kfa (p := ⟨gb239, 1, none⟩) (kfa (p := ⟨gb239, 0, none⟩) (Kd.R_types HO_253001.out BK239.out (by decide)) (fun _ hk => hk.2) (.slice Ao8 t244.length co8)) (fun _ hk => hk.2) (.slice Ao12 t247.length co12)) (fun _ hk => trivial), by (with_reducible repeat (first | apply kra | apply krn | apply krd)); exact Kd.R_mono (kfa (p := ⟨gb239, 1, none⟩) (kfa (p := ⟨gb239, 0, none⟩) (Kd.R_types HO_7.out BK239.out (by decide)) (fun _ hk => hk.2) (.slice Ao8 t244.length co8)) (fun _ hk => hk.2) (.slice Ao12 t247.length co12)) (fun _ hk => trivial), by repeat (first | (with_reducible first | exact HB.out | apply bal | apply pdn | apply bd1 | refine bst ?_ (IsS139.ge HI243.out) | refine bst ?_ GE239.out | refine bst ?_ GE252.out) | exact HB.out)⟩

/-! ### laws_b10Texts: function 35 -/
def laws_b10Texts.l0 : Nat → List ByteArray → List ByteArray → Int → Option (Bool)
 | 0, _, _, _ => none
 | k + 1, x0, x1, x5 => if x5 < (x0.length : Int) then (if 0 ≤ x5 then (if x5 < (x1.length : Int) then (if (rdOf ByteArray.empty x0 x5).toList = (rdOf ByteArray.empty x1 x5).toList then (laws_b10Texts.l0 k x0 x1 (wrap64 (x5 + 1))) else (some false)) else (none)) else (none)) else (some true)
def laws_b10Texts.f (k : Nat) (l0 : List ByteArray) (l1 : List ByteArray) : Option (Bool) := if (l0.length : Int) = (l1.length : Int) then (laws_b10Texts.l0 k l0 l1 0) else (some false)
theorem laws_b10Texts.mono_l : ∀ k, (∀ y0 y1 y2, LeO (laws_b10Texts.l0 k y0 y1 y2) (laws_b10Texts.l0 (k + 1) y0 y1 y2))
 | 0 => fun _ _ _ r h => by simp [laws_b10Texts.l0] at h
 | k + 1 => by
  have ih0 := laws_b10Texts.mono_l k
  ·intro y0 y1 y2
   unfold laws_b10Texts.l0
   repeat' first
   | (with_reducible exact ih0 _ _ _)
   | (with_reducible exact LeO.refl _)
   | (with_reducible exact LeO.none _)
   | (with_reducible refine LeO.ite ?_ ?_)
   | (with_reducible refine LeO.bind ?_ (fun _ => ?_))
   | exact ih0 _ _ _
   | exact LeO.none _
   | refine LeO.ite ?_ ?_
   | refine LeO.bind ?_ (fun _ => ?_)
theorem laws_b10Texts.mono : ∀ a0 a1 k, LeO (laws_b10Texts.f k a0 a1) (laws_b10Texts.f (k + 1) a0 a1) := by
 intro a0 a1 k
 have ih0 := laws_b10Texts.mono_l k
 unfold laws_b10Texts.f
 repeat' first
   | (with_reducible exact ih0 _ _ _)
   | (with_reducible exact LeO.refl _)
   | (with_reducible exact LeO.none _)
   | (with_reducible refine LeO.ite ?_ ?_)
   | (with_reducible refine LeO.bind ?_ (fun _ => ?_))
   | exact ih0 _ _ _
   | exact LeO.none _
   | refine LeO.ite ?_ ?_
   | refine LeO.bind ?_ (fun _ => ?_)
set_option maxHeartbeats 8000000 in
set_option maxRecDepth 100000 in
theorem laws_b10Texts.calls (k : Nat) (A0 : Option Addr) (c0 : Nat) (l0 : List ByteArray) (A1 : Option Addr) (c1 : Nat) (l1 : List ByteArray) (r : Bool) (w : World) (hr0 : Kd.C Kd.string w A0 l0.length l0) (hc0 : l0.length ≤ c0) (hr1 : Kd.C Kd.string w A1 l1.length l1) (hc1 : l1.length ≤ c1) (h : laws_b10Texts.f k l0 l1 = some r) :
  Calls Try.prog 35 #[.slice A0 l0.length c0, .slice A1 l1.length c1] w fun e w' => e = .returned (.bool r) ∧ Drawn0 w w' := by
 have HR0 := am hr0
 have HC0 := am hc0
 clear hr0 hc0
 have HR1 := am hr1
 have HC1 := am hc1
 clear hr1 hc1
 have H : (if (l0.length : Int) = (l1.length : Int) then (laws_b10Texts.l0 k l0 l1 0) else (some false)) = some r := h
 clear h
 by_cases c3 : (l0.length : Int) = (l1.length : Int)
 ·rw [if_pos c3] at H
  have c3b0 : ((l0.length : Int) == (l1.length : Int)) = true := beq_iff_eq.mpr c3
  have c3b1 : ((l0.length : Int) != (l1.length : Int)) = false := bne_eq_false_iff_eq.mpr c3
  have c3b2 : (l0.length == l1.length) = true := by first | simpa using c3 | (simp at c3 ⊢; omega)
  clear c3
  have H' := am H
  clear H
  go_enter Try.func35, Try.ntmps35
  go_wp2
  repeat (go_quiet (fail); try go_wp2)
  go_loopg [5] k (fun kq v5 w' => ∃ (x5_1 : Int), v5 = .int .i64 x5_1 ∧ Aside0 (laws_b10Texts.l0 kq l0 l1 x5_1 = some r) ∧ Aside0 (kq ≤ k) ∧ Drawn0 w w')
  case atStart => exact ⟨(0), (by first | rfl | (simp; done) | (simp [*]; done)), H', ⟨Nat.le_refl _⟩, by repeat (first | exact Drawn0.refl _ | apply Drawn0.step)⟩
  case round =>
   clear H'
   obtain ⟨x5_1, rfl, HA, HK1, ⟨m1, rfl⟩⟩ := hrel
   cases gk with
   | zero => exact absurd HA.out (by simp [laws_b10Texts.l0])
   | succ k1 =>
    have H := HA.out
    clear HA
    simp only [laws_b10Texts.l0] at H
    by_cases c4 : x5_1 < (l0.length : Int)
    ·rw [if_pos c4] at H
     have c4b0 : decide (x5_1 < (l0.length : Int)) = true := decide_eq_true c4
     clear c4
     by_cases c5 : 0 ≤ x5_1
     ·rw [if_pos c5] at H
      have c5b0 : decide (0 ≤ x5_1) = true := decide_eq_true c5
      clear c5
      by_cases c6 : x5_1 < (l1.length : Int)
      ·rw [if_pos c6] at H
       have c6b0 : decide (x5_1 < (l1.length : Int)) = true := decide_eq_true c6
       clear c6
       by_cases c7 : (rdOf ByteArray.empty l0 x5_1).toList = (rdOf ByteArray.empty l1 x5_1).toList
       ·rw [if_pos c7] at H
        have c7b0 : ((rdOf ByteArray.empty l0 x5_1).toList == (rdOf ByteArray.empty l1 x5_1).toList) = true := beq_iff_eq.mpr c7
        have c7b1 : ((rdOf ByteArray.empty l0 x5_1).toList != (rdOf ByteArray.empty l1 x5_1).toList) = false := bne_eq_false_iff_eq.mpr c7
        clear c7
        have H' := am H
        clear H
        have p277 : 0 ≤ (x5_1 : Int) := of_decide_eq_true (by first | (with_reducible assumption) | assumption)
        have q277 : x5_1 < (l0.length : Int) := of_decide_eq_true (by first | (with_reducible assumption) | assumption)
        obtain ⟨ad277, e277, hx277_0⟩ := Kd.at_string HR0.out x5_1 p277 q277
        cases e277
        replace p277 := eq_true p277
        replace q277 := eq_true q277
        have p278 : 0 ≤ (x5_1 : Int) := of_decide_eq_true (by first | (with_reducible assumption) | assumption)
        have q278 : x5_1 < (l1.length : Int) := of_decide_eq_true (by first | (with_reducible assumption) | assumption)
        obtain ⟨ad278, e278, hx278_0⟩ := Kd.at_string HR1.out x5_1 p278 q278
        cases e278
        replace p278 := eq_true p278
        replace q278 := eq_true q278
        go_wp2
        repeat (go_quiet (fail); try go_wp2)
        go_roundg k1
        case measure => have := HK1.out; omega
        case rel => exact ⟨(wrap64 (x5_1 + 1)), (by first | rfl | (simp; done) | (simp [*]; done)), H', ⟨by have := HK1.out; omega⟩, by repeat (first | exact Drawn0.refl _ | apply Drawn0.step)⟩
       ·rw [if_neg c7] at H
        have c7b0 : ((rdOf ByteArray.empty l0 x5_1).toList == (rdOf ByteArray.empty l1 x5_1).toList) = false := beq_eq_false_iff_ne.mpr c7
        have c7b1 : ((rdOf ByteArray.empty l0 x5_1).toList != (rdOf ByteArray.empty l1 x5_1).toList) = true := bne_iff_ne.mpr c7
        obtain rfl := Option.some.inj H
        have p277 : 0 ≤ (x5_1 : Int) := of_decide_eq_true (by first | (with_reducible assumption) | assumption)
        have q277 : x5_1 < (l0.length : Int) := of_decide_eq_true (by first | (with_reducible assumption) | assumption)
        obtain ⟨ad277, e277, hx277_0⟩ := Kd.at_string HR0.out x5_1 p277 q277
        cases e277
        replace p277 := eq_true p277
        replace q277 := eq_true q277
        have p278 : 0 ≤ (x5_1 : Int) := of_decide_eq_true (by first | (with_reducible assumption) | assumption)
        have q278 : x5_1 < (l1.length : Int) := of_decide_eq_true (by first | (with_reducible assumption) | assumption)
        obtain ⟨ad278, e278, hx278_0⟩ := Kd.at_string HR1.out x5_1 p278 q278
        cases e278
        replace p278 := eq_true p278
        replace q278 := eq_true q278
        go_wp2
        repeat (go_quiet (fail); try go_wp2)
        go_ret
        exact ⟨by first | rfl | (simp; done) | (simp [*]; done), by repeat (first | exact Drawn0.refl _ | apply Drawn0.step)⟩
      ·rw [if_neg c6] at H
       exact absurd H (by simp)
     ·rw [if_neg c5] at H
      exact absurd H (by simp)
    ·rw [if_neg c4] at H
     have c4b0 : decide (x5_1 < (l0.length : Int)) = false := decide_eq_false c4
     clear c4
     obtain rfl := Option.some.inj H
     go_wp2
     repeat (go_quiet (fail); try go_wp2)
     go_ret
     exact ⟨by first | rfl | (simp; done) | (simp [*]; done), by repeat (first | exact Drawn0.refl _ | apply Drawn0.step)⟩
 ·rw [if_neg c3] at H
  have c3b0 : ((l0.length : Int) == (l1.length : Int)) = false := beq_eq_false_iff_ne.mpr c3
  have c3b1 : ((l0.length : Int) != (l1.length : Int)) = true := bne_iff_ne.mpr c3
  have c3b2 : (l0.length == l1.length) = false := by first | simpa using c3 | (simp at c3 ⊢; omega)
  obtain rfl := Option.some.inj H
  go_enter Try.func35, Try.ntmps35
  go_wp2
  repeat (go_quiet (fail); try go_wp2)
  go_ret
  exact ⟨by first | rfl | (simp; done) | (simp [*]; done), by repeat (first | exact Drawn0.refl _ | apply Drawn0.step)⟩

end Go.Proofs.Ythphhklbliambaa.MFnDiskKeeps
