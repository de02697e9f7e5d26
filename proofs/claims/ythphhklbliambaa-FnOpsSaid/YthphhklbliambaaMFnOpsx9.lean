-- Written by a program of this session (wip/tools/myprint.py) over the kit's print: it is not the kit's print.
import Derived.Test.YthphhklbliambaaExtra
import Derived.Test.YthphhklbliambaaMFnOpsx0
import Derived.Test.YthphhklbliambaaMFnOpsx8
namespace Go.Proofs.Ythphhklbliambaa.MFnOps
open Go.RowKit Go.Proofs.YthphhklbliambaaW.PrintWords Go.Proofs.YthphhklbliambaaW.PrintLast Go.Proofs.YthphhklbliambaaW.PrintMore
open List renaming setIfInBounds_toArray → sit, set_cons_zero → scz, set_cons_succ → scs, map_toArray → mta, map_cons → mco, map_nil → mni, length_drop → lnd, length_take → lnt
attribute [local go_sem] max2_int min2_int max_two min_two max_three min_three max_four min_four   -- for this text's walks alone
set_option linter.unusedVariables false
set_option linter.unusedSimpArgs false

/-! ### spec_l16Op: function 99 -/
mutual
def spec_l16Op.j0 : Nat → Int → Bool → List Int → Int → Int → Option (Int × Int × ByteArray × Int × Int)
 | 0, _, _, _, _, _ => none
 | k + 1, x5, x17, x1000, x1001, x1002 => if x17 = true then ((spec_l00Src_among.f x1000 x1001 x1002 (([1, 2, 2, 6] : List Int))).bind fun bt229 => (spec_l16Op.j1 k bt229.1 x1000 bt229.2.1 bt229.2.2)) else (spec_l16Op.j1 k x5 x1000 x1001 x1002)
def spec_l16Op.j1 : Nat → Int → List Int → Int → Int → Option (Int × Int × ByteArray × Int × Int)
 | 0, _, _, _, _ => none
 | k + 1, x5, x1000, x1001, x1002 => if x5 = 3 then (spec_l16Op.j2 k x5 true x1000 x1001 x1002 x5 0 (⟨#[]⟩ : ByteArray)) else (spec_l16Op.j2 k x5 (x5 == 5) x1000 x1001 x1002 x5 0 (⟨#[]⟩ : ByteArray))
def spec_l16Op.j2 : Nat → Int → Bool → List Int → Int → Int → Int → Int → ByteArray → Option (Int × Int × ByteArray × Int × Int)
 | 0, _, _, _, _, _, _, _, _ => none
 | k + 1, x5, x28, x1000, x1001, x1002, x233000, x233001, x233002 => if x28 = true then ((spec_l00Src_pick.f x1000 x1001 x1002 12).bind fun bt233 => ((spec_l00Src_one.f x1000 bt233.2.1 bt233.2.2 8).bind fun bt236 => (if bt236.1 = true then ((spec_l00Src_pick.f x1000 bt236.2.1 bt236.2.2 3).bind fun bt239 => (spec_l16Op.j3 k x5 x1000 bt239.2.1 bt239.2.2 x233000 (wrap64 (63 + bt239.1)) x233002)) else (spec_l16Op.j3 k x5 x1000 bt236.2.1 bt236.2.2 x233000 bt233.1 x233002)))) else (spec_l16Op.j3 k x5 x1000 x1001 x1002 x233000 x233001 x233002)
def spec_l16Op.j3 : Nat → Int → List Int → Int → Int → Int → Int → ByteArray → Option (Int × Int × ByteArray × Int × Int)
 | 0, _, _, _, _, _, _, _ => none
 | k + 1, x5, x1000, x1001, x1002, x233000, x233001, x233002 => if x5 = 2 then (spec_l16Op.j4 k true x1000 x1001 x1002 x233000 x233001 x233002) else (if x5 = 3 then (spec_l16Op.j4 k true x1000 x1001 x1002 x233000 x233001 x233002) else (spec_l16Op.j4 k (x5 == 4) x1000 x1001 x1002 x233000 x233001 x233002))
def spec_l16Op.j4 : Nat → Bool → List Int → Int → Int → Int → Int → ByteArray → Option (Int × Int × ByteArray × Int × Int)
 | 0, _, _, _, _, _, _, _ => none
 | k + 1, x47, x1000, x1001, x1002, x233000, x233001, x233002 => if x47 = true then ((spec_l16Bytes.f k x1000 x1001 x1002).bind fun bt242 => (spec_l16Op.j5 k x1000 bt242.2.1 bt242.2.2 x233000 x233001 bt242.1)) else (spec_l16Op.j5 k x1000 x1001 x1002 x233000 x233001 x233002)
def spec_l16Op.j5 : Nat → List Int → Int → Int → Int → Int → ByteArray → Option (Int × Int × ByteArray × Int × Int)
 | 0, _, _, _, _, _, _ => none
 | k + 1, x1000, x1001, x1002, x233000, x233001, x233002 => (spec_l00Src_pick.f x1000 x1001 x1002 30).bind fun bt245 => (if bt245.1 = 0 then ((spec_l00Src_pick.f x1000 bt245.2.1 bt245.2.2 3).bind fun bt248 => (some (x233000, wrap64 ((wrap64 (x233001 + 1)) - bt248.1), x233002, bt248.2.1, bt248.2.2))) else (if bt245.1 = 1 then ((spec_l00Src_pick.f x1000 bt245.2.1 bt245.2.2 9).bind fun bt251 => (some (wrap64 (bt251.1 - 1), x233001, x233002, bt251.2.1, bt251.2.2))) else (if bt245.1 = 2 then (some (x233000, x233001, (⟨#[120]⟩ : ByteArray), bt245.2.1, bt245.2.2)) else (some (x233000, x233001, x233002, bt245.2.1, bt245.2.2)))))
end
def spec_l16Op.f (k : Nat) (s0_0 : List Int) (s0_1 : Int) (s0_2 : Int) (a1_0 : Int) (a1_1 : Int) : Option (Int × Int × ByteArray × Int × Int) := (spec_l00Src_among.f s0_0 s0_1 s0_2 (([1, 2, 3, 4, 5, 6, 2, 4] : List Int))).bind fun bt220 => (if a1_0 > 1 then ((spec_l00Src_one.f s0_0 bt220.2.1 bt220.2.2 12).bind fun bt223 => (spec_l16Op.j0 k bt220.1 (!bt223.1) s0_0 bt223.2.1 bt223.2.2)) else (spec_l16Op.j0 k bt220.1 false s0_0 bt220.2.1 bt220.2.2))
theorem spec_l16Op.mono_l : ∀ k, (∀ y0 y1 y2 y3 y4, LeO (spec_l16Op.j0 k y0 y1 y2 y3 y4) (spec_l16Op.j0 (k + 1) y0 y1 y2 y3 y4)) ∧ (∀ y0 y1 y2 y3, LeO (spec_l16Op.j1 k y0 y1 y2 y3) (spec_l16Op.j1 (k + 1) y0 y1 y2 y3)) ∧ (∀ y0 y1 y2 y3 y4 y5 y6 y7, LeO (spec_l16Op.j2 k y0 y1 y2 y3 y4 y5 y6 y7) (spec_l16Op.j2 (k + 1) y0 y1 y2 y3 y4 y5 y6 y7)) ∧ (∀ y0 y1 y2 y3 y4 y5 y6, LeO (spec_l16Op.j3 k y0 y1 y2 y3 y4 y5 y6) (spec_l16Op.j3 (k + 1) y0 y1 y2 y3 y4 y5 y6)) ∧ (∀ y0 y1 y2 y3 y4 y5 y6, LeO (spec_l16Op.j4 k y0 y1 y2 y3 y4 y5 y6) (spec_l16Op.j4 (k + 1) y0 y1 y2 y3 y4 y5 y6)) ∧ (∀ y0 y1 y2 y3 y4 y5, LeO (spec_l16Op.j5 k y0 y1 y2 y3 y4 y5) (spec_l16Op.j5 (k + 1) y0 y1 y2 y3 y4 y5))
 | 0 => ⟨fun _ _ _ _ _ r h => by simp [spec_l16Op.j0] at h, fun _ _ _ _ r h => by simp [spec_l16Op.j1] at h, fun _ _ _ _ _ _ _ _ r h => by simp [spec_l16Op.j2] at h, fun _ _ _ _ _ _ _ r h => by simp [spec_l16Op.j3] at h, fun _ _ _ _ _ _ _ r h => by simp [spec_l16Op.j4] at h, fun _ _ _ _ _ _ r h => by simp [spec_l16Op.j5] at h⟩
 | k + 1 => by
  obtain ⟨ih0, ih1, ih2, ih3, ih4, ih5⟩ := spec_l16Op.mono_l k
  refine ⟨?_, ?_, ?_, ?_, ?_, ?_⟩
  ·intro y0 y1 y2 y3 y4
   unfold spec_l16Op.j0
   repeat' first
   | (with_reducible exact ih0 _ _ _ _ _)
   | (with_reducible exact ih1 _ _ _ _)
   | (with_reducible exact ih2 _ _ _ _ _ _ _ _)
   | (with_reducible exact ih3 _ _ _ _ _ _ _)
   | (with_reducible exact ih4 _ _ _ _ _ _ _)
   | (with_reducible exact ih5 _ _ _ _ _ _)
   | (with_reducible exact spec_l16Bytes.mono _ _ _ _)
   | (with_reducible exact LeO.refl _)
   | (with_reducible exact LeO.none _)
   | (with_reducible refine LeO.ite ?_ ?_)
   | (with_reducible refine LeO.bind ?_ (fun _ => ?_))
   | exact ih0 _ _ _ _ _
   | exact ih1 _ _ _ _
   | exact ih2 _ _ _ _ _ _ _ _
   | exact ih3 _ _ _ _ _ _ _
   | exact ih4 _ _ _ _ _ _ _
   | exact ih5 _ _ _ _ _ _
   | exact spec_l16Bytes.mono _ _ _ _
   | exact LeO.none _
   | refine LeO.ite ?_ ?_
   | refine LeO.bind ?_ (fun _ => ?_)
  ·intro y0 y1 y2 y3
   unfold spec_l16Op.j1
   repeat' first
   | (with_reducible exact ih0 _ _ _ _ _)
   | (with_reducible exact ih1 _ _ _ _)
   | (with_reducible exact ih2 _ _ _ _ _ _ _ _)
   | (with_reducible exact ih3 _ _ _ _ _ _ _)
   | (with_reducible exact ih4 _ _ _ _ _ _ _)
   | (with_reducible exact ih5 _ _ _ _ _ _)
   | (with_reducible exact spec_l16Bytes.mono _ _ _ _)
   | (with_reducible exact LeO.refl _)
   | (with_reducible exact LeO.none _)
   | (with_reducible refine LeO.ite ?_ ?_)
   | (with_reducible refine LeO.bind ?_ (fun _ => ?_))
   | exact ih0 _ _ _ _ _
   | exact ih1 _ _ _ _
   | exact ih2 _ _ _ _ _ _ _ _
   | exact ih3 _ _ _ _ _ _ _
   | exact ih4 _ _ _ _ _ _ _
   | exact ih5 _ _ _ _ _ _
   | exact spec_l16Bytes.mono _ _ _ _
   | exact LeO.none _
   | refine LeO.ite ?_ ?_
   | refine LeO.bind ?_ (fun _ => ?_)
  ·intro y0 y1 y2 y3 y4 y5 y6 y7
   unfold spec_l16Op.j2
   repeat' first
   | (with_reducible exact ih0 _ _ _ _ _)
   | (with_reducible exact ih1 _ _ _ _)
   | (with_reducible exact ih2 _ _ _ _ _ _ _ _)
   | (with_reducible exact ih3 _ _ _ _ _ _ _)
   | (with_reducible exact ih4 _ _ _ _ _ _ _)
   | (with_reducible exact ih5 _ _ _ _ _ _)
   | (with_reducible exact spec_l16Bytes.mono _ _ _ _)
   | (with_reducible exact LeO.refl _)
   | (with_reducible exact LeO.none _)
   | (with_reducible refine LeO.ite ?_ ?_)
   | (with_reducible refine LeO.bind ?_ (fun _ => ?_))
   | exact ih0 _ _ _ _ _
   | exact ih1 _ _ _ _
   | exact ih2 _ _ _ _ _ _ _ _
   | exact ih3 _ _ _ _ _ _ _
   | exact ih4 _ _ _ _ _ _ _
   | exact ih5 _ _ _ _ _ _
   | exact spec_l16Bytes.mono _ _ _ _
   | exact LeO.none _
   | refine LeO.ite ?_ ?_
   | refine LeO.bind ?_ (fun _ => ?_)
  ·intro y0 y1 y2 y3 y4 y5 y6
   unfold spec_l16Op.j3
   repeat' first
   | (with_reducible exact ih0 _ _ _ _ _)
   | (with_reducible exact ih1 _ _ _ _)
   | (with_reducible exact ih2 _ _ _ _ _ _ _ _)
   | (with_reducible exact ih3 _ _ _ _ _ _ _)
   | (with_reducible exact ih4 _ _ _ _ _ _ _)
   | (with_reducible exact ih5 _ _ _ _ _ _)
   | (with_reducible exact spec_l16Bytes.mono _ _ _ _)
   | (with_reducible exact LeO.refl _)
   | (with_reducible exact LeO.none _)
   | (with_reducible refine LeO.ite ?_ ?_)
   | (with_reducible refine LeO.bind ?_ (fun _ => ?_))
   | exact ih0 _ _ _ _ _
   | exact ih1 _ _ _ _
   | exact ih2 _ _ _ _ _ _ _ _
   | exact ih3 _ _ _ _ _ _ _
   | exact ih4 _ _ _ _ _ _ _
   | exact ih5 _ _ _ _ _ _
   | exact spec_l16Bytes.mono _ _ _ _
   | exact LeO.none _
   | refine LeO.ite ?_ ?_
   | refine LeO.bind ?_ (fun _ => ?_)
  ·intro y0 y1 y2 y3 y4 y5 y6
   unfold spec_l16Op.j4
   repeat' first
   | (with_reducible exact ih0 _ _ _ _ _)
   | (with_reducible exact ih1 _ _ _ _)
   | (with_reducible exact ih2 _ _ _ _ _ _ _ _)
   | (with_reducible exact ih3 _ _ _ _ _ _ _)
   | (with_reducible exact ih4 _ _ _ _ _ _ _)
   | (with_reducible exact ih5 _ _ _ _ _ _)
   | (with_reducible exact spec_l16Bytes.mono _ _ _ _)
   | (with_reducible exact LeO.refl _)
   | (with_reducible exact LeO.none _)
   | (with_reducible refine LeO.ite ?_ ?_)
   | (with_reducible refine LeO.bind ?_ (fun _ => ?_))
   | exact ih0 _ _ _ _ _
   | exact ih1 _ _ _ _
   | exact ih2 _ _ _ _ _ _ _ _
   | exact ih3 _ _ _ _ _ _ _
   | exact ih4 _ _ _ _ _ _ _
   | exact ih5 _ _ _ _ _ _
   | exact spec_l16Bytes.mono _ _ _ _
   | exact LeO.none _
   | refine LeO.ite ?_ ?_
   | refine LeO.bind ?_ (fun _ => ?_)
  ·intro y0 y1 y2 y3 y4 y5
   unfold spec_l16Op.j5
   repeat' first
   | (with_reducible exact ih0 _ _ _ _ _)
   | (with_reducible exact ih1 _ _ _ _)
   | (with_reducible exact ih2 _ _ _ _ _ _ _ _)
   | (with_reducible exact ih3 _ _ _ _ _ _ _)
   | (with_reducible exact ih4 _ _ _ _ _ _ _)
   | (with_reducible exact ih5 _ _ _ _ _ _)
   | (with_reducible exact spec_l16Bytes.mono _ _ _ _)
   | (with_reducible exact LeO.refl _)
   | (with_reducible exact LeO.none _)
   | (with_reducible refine LeO.ite ?_ ?_)
   | (with_reducible refine LeO.bind ?_ (fun _ => ?_))
   | exact ih0 _ _ _ _ _
   | exact ih1 _ _ _ _
   | exact ih2 _ _ _ _ _ _ _ _
   | exact ih3 _ _ _ _ _ _ _
   | exact ih4 _ _ _ _ _ _ _
   | exact ih5 _ _ _ _ _ _
   | exact spec_l16Bytes.mono _ _ _ _
   | exact LeO.none _
   | refine LeO.ite ?_ ?_
   | refine LeO.bind ?_ (fun _ => ?_)
theorem spec_l16Op.mono : ∀ a0 a1 a2 a3 a4 k, LeO (spec_l16Op.f k a0 a1 a2 a3 a4) (spec_l16Op.f (k + 1) a0 a1 a2 a3 a4) := by
 intro a0 a1 a2 a3 a4 k
 obtain ⟨ih0, ih1, ih2, ih3, ih4, ih5⟩ := spec_l16Op.mono_l k
 unfold spec_l16Op.f
 repeat' first
   | (with_reducible exact ih0 _ _ _ _ _)
   | (with_reducible exact ih1 _ _ _ _)
   | (with_reducible exact ih2 _ _ _ _ _ _ _ _)
   | (with_reducible exact ih3 _ _ _ _ _ _ _)
   | (with_reducible exact ih4 _ _ _ _ _ _ _)
   | (with_reducible exact ih5 _ _ _ _ _ _)
   | (with_reducible exact spec_l16Bytes.mono _ _ _ _)
   | (with_reducible exact LeO.refl _)
   | (with_reducible exact LeO.none _)
   | (with_reducible refine LeO.ite ?_ ?_)
   | (with_reducible refine LeO.bind ?_ (fun _ => ?_))
   | exact ih0 _ _ _ _ _
   | exact ih1 _ _ _ _
   | exact ih2 _ _ _ _ _ _ _ _
   | exact ih3 _ _ _ _ _ _ _
   | exact ih4 _ _ _ _ _ _ _
   | exact ih5 _ _ _ _ _ _
   | exact spec_l16Bytes.mono _ _ _ _
   | exact LeO.none _
   | refine LeO.ite ?_ ?_
   | refine LeO.bind ?_ (fun _ => ?_)
def spec_l16Op.T13 : Bool × List (List Nat × List Nat) := (true, [([], []), ([0], [0]), ([1], [1]), ([], []), ([3], [3]), ([2, 4], [2, 4]), ([0, 1, 2, 3, 4, 5], []), ([6, 5, 4, 0, 1, 2, 3, 4, 5], [5, 6])])
def spec_l16Op.B13 : List Nat := [0, 1, 3, 0, 8, 31, 63, 127]
theorem spec_l16Op.tab13 : rtab .any (opsOf Try.f99 13) = spec_l16Op.T13 := by kernel_rfl
theorem spec_l16Op.bits13 : waitsOk spec_l16Op.T13.2 spec_l16Op.B13 = true := by kernel_rfl
set_option maxHeartbeats 8000000 in
set_option maxRecDepth 100000 in
theorem spec_l16Op.calls (k : Nat) (g : Nat) (s0_0 : List Int) (s0_1 : Int) (s0_2 : Int) (a1_0 : Int) (a1_1 : Int) (r1 : Int) (r2 : Int) (r3 : ByteArray) (r4 : Int) (r5 : Int) (w0 w : World) (hI : IsS139 w0 w g s0_0 s0_1 s0_2) (hB : Below w0.heap.size w0 w) (h : spec_l16Op.f k s0_0 s0_1 s0_2 a1_0 a1_1 = some (r1, r2, r3, r4, r5)) :
  Calls Try.prog 99 #[.pointer (some ⟨g, 0, none⟩), .agg #[.int .i64 a1_0, .int .i64 a1_1]] w fun e w' => e = .returned (.agg #[.int .i64 r1, .int .i64 r2, .string r3]) ∧ IsS139 w0 w' g s0_0 r4 r5 ∧ Below w0.heap.size w0 w' ∧ KeepBut w w' g none := by
 have hu84 := Try.underlying84
 have hu60 := Try.underlying60
 have HI0 := am hI
 have HK := am (KeepBut.refl w g none)
 have HL := am hB.size
 clear hI
 have HW0 := am hB.size
 have HB := am hB
 clear hB
 have H : ((spec_l00Src_among.f s0_0 s0_1 s0_2 (([1, 2, 3, 4, 5, 6, 2, 4] : List Int))).bind fun bt220 => (if a1_0 > 1 then ((spec_l00Src_one.f s0_0 bt220.2.1 bt220.2.2 12).bind fun bt223 => (spec_l16Op.j0 k bt220.1 (!bt223.1) s0_0 bt223.2.1 bt223.2.2)) else (spec_l16Op.j0 k bt220.1 false s0_0 bt220.2.1 bt220.2.2))) = some (r1, r2, r3, r4, r5) := h
 clear h
 obtain ⟨y217, hy217⟩ : ∃ y_ : List Int, y_ = (([1, 2, 3, 4, 5, 6, 2, 4] : List Int)) := ⟨_, rfl⟩
 replace H : ((spec_l00Src_among.f s0_0 s0_1 s0_2 y217).bind fun bt220 => (if a1_0 > 1 then ((spec_l00Src_one.f s0_0 bt220.2.1 bt220.2.2 12).bind fun bt223 => (spec_l16Op.j0 k bt220.1 (!bt223.1) s0_0 bt223.2.1 bt223.2.2)) else (spec_l16Op.j0 k bt220.1 false s0_0 bt220.2.1 bt220.2.2))) = some (r1, r2, r3, r4, r5) := by first | (rw [hy217]; with_reducible exact H) | (have H2_ := (Option.bind_some _ _).symm.trans H; rw [hy217]; with_reducible exact H2_) | (have H2_ := (Option.bind_some _ _).symm.trans H; with_reducible exact H2_) | with_reducible exact H | (rw [hy217]; exact H) | exact H
 have Ny217 := am hy217
 clear hy217
 replace H := Option.bind_eq_some_iff.mp H
 obtain ⟨⟨t220, t221, t222⟩, A30, H⟩ := H
 replace H : (if a1_0 > 1 then ((spec_l00Src_one.f s0_0 t221 t222 12).bind fun bt223 => (spec_l16Op.j0 k t220 (!bt223.1) s0_0 bt223.2.1 bt223.2.2)) else (spec_l16Op.j0 k t220 false s0_0 t221 t222)) = some (r1, r2, r3, r4, r5) := H
 have A3 := am A30
 clear A30
 have HC4 := am H
 clear H
 go_enter Try.func99, Try.ntmps99
 go_upto_region 2 with (first | ((with_reducible refine gate_dst (N := 3) rfl ?_); refine box_event ?hg (N := 3) ?hd (cs := #[.int .i64 a1_0, .int .i64 a1_1]) (t := 84) ?hr ?_; (case hd => rfl); (case hg => rfl); (case hr => first | (go_simp; done) | (go_simp; rfl)); intro gb215 hg w5 hbox hb; have n0_ := am (IsS139.below (by repeat (first | (with_reducible first | exact HI0.out | apply IsS139.alloc | apply IsS139.drewN | apply IsS139.drew | apply IsS139.set_1 | apply IsS139.set_2) | exact HI0.out)) hb); have n1_ := am (KeepBut.trans (by repeat (first | (with_reducible first | exact HK.out | apply KeepBut.set_ | apply keep_drewN | apply keep_drew | apply keep_alloc) | exact HK.out)) (KeepBut.of_below hb g none) (.inl rfl)); have n2_ := am (below_step (by repeat (first | (with_reducible first | exact HB.out | apply bal | apply pdn | apply bd1 | refine bst ?_ (IsS139.ge HI0.out)) | exact HB.out)) hb); have n3_ := am (hbox); have n4_ := am ((by rw [hg]; exact (keep_size (w := w) (g := g) (row := none) (by repeat (first | (with_reducible first | exact HK.out | apply KeepBut.set_ | apply keep_drewN | apply keep_drew | apply keep_alloc) | exact HK.out))) : w.heap.size ≤ gb215)); have n5_ := am ((Nat.le_trans HW0.out (by rw [hg]; exact (keep_size (w := w) (g := g) (row := none) (by repeat (first | (with_reducible first | exact HK.out | apply KeepBut.set_ | apply keep_drewN | apply keep_drew | apply keep_alloc) | exact HK.out))) : w.heap.size ≤ gb215) : w0.heap.size ≤ gb215)); have n6_ := am ((by rw [hg]; exact Nat.ne_of_lt (IsS139.lt (show IsS139 w0 _ g s0_0 s0_1 s0_2 from by repeat (first | (with_reducible first | exact HI0.out | apply IsS139.alloc | apply IsS139.drewN | apply IsS139.drew | apply IsS139.set_1 | apply IsS139.set_2) | exact HI0.out))) : g ≠ gb215)); have n7_ := am ((by rw [hg]; exact Nat.ne_of_gt (IsS139.lt (show IsS139 w0 _ g s0_0 s0_1 s0_2 from by repeat (first | (with_reducible first | exact HI0.out | apply IsS139.alloc | apply IsS139.drewN | apply IsS139.drew | apply IsS139.set_1 | apply IsS139.set_2) | exact HI0.out))) : gb215 ≠ g)); clear HI0; clear HK; clear HB; have HI0 := n0_; have HK := n1_; have HB := n2_; have BK215 := n3_; have GW215 := n4_; have GE215 := n5_; have NB0_215 := n6_; have NB215_0 := n7_; clear n0_ n1_ n2_ n3_ n4_ n5_ n6_ n7_; clear hb hbox hg) | ((with_reducible refine gate_dst (N := 4) rfl ?_); refine box_event ?hg (N := 4) ?hd (cs := #[.int .i64 0, .int .i64 0, .string (⟨#[]⟩ : ByteArray)]) (t := 60) ?hr ?_; (case hd => rfl); (case hg => rfl); (case hr => first | (go_simp; done) | (go_simp; rfl)); intro gb216 hg w6 hbox hb; have n0_ := am (IsS139.below (by repeat (first | (with_reducible first | exact HI0.out | apply IsS139.alloc | apply IsS139.drewN | apply IsS139.drew | apply IsS139.set_1 | apply IsS139.set_2 | refine IsS139.far ?_ NB0_215.out _) | exact HI0.out)) hb); have n1_ := am (kbb (g := gb215) (o := .cells #[.int .i64 a1_0, .int .i64 a1_1] 84 (0, 0)) (by (with_reducible repeat (first | apply kdn | apply kdr | apply kal)); exact BK215.out) hb); have n2_ := am (KeepBut.trans (by repeat (first | (with_reducible first | exact HK.out | apply KeepBut.set_ | apply keep_drewN | apply keep_drew | apply keep_alloc | refine keep_far ?_ GW215.out _) | exact HK.out)) (KeepBut.of_below hb g none) (.inl rfl)); have n3_ := am (below_step (by repeat (first | (with_reducible first | exact HB.out | apply bal | apply pdn | apply bd1 | refine bst ?_ (IsS139.ge HI0.out) | refine bst ?_ GE215.out) | exact HB.out)) hb); have n4_ := am (hbox); have n5_ := am ((by rw [hg]; exact (keep_size (w := w) (g := g) (row := none) (by repeat (first | (with_reducible first | exact HK.out | apply KeepBut.set_ | apply keep_drewN | apply keep_drew | apply keep_alloc | refine keep_far ?_ GW215.out _) | exact HK.out))) : w.heap.size ≤ gb216)); have n6_ := am ((Nat.le_trans HW0.out (by rw [hg]; exact (keep_size (w := w) (g := g) (row := none) (by repeat (first | (with_reducible first | exact HK.out | apply KeepBut.set_ | apply keep_drewN | apply keep_drew | apply keep_alloc | refine keep_far ?_ GW215.out _) | exact HK.out))) : w.heap.size ≤ gb216) : w0.heap.size ≤ gb216)); have n7_ := am ((by rw [hg]; exact Nat.ne_of_lt (blk_lt (g := gb215) (o := .cells #[.int .i64 a1_0, .int .i64 a1_1] 84 (0, 0)) (by (with_reducible repeat (first | apply kdn | apply kdr | apply kal)); exact BK215.out)) : gb215 ≠ gb216)); have n8_ := am ((by rw [hg]; exact Nat.ne_of_gt (blk_lt (g := gb215) (o := .cells #[.int .i64 a1_0, .int .i64 a1_1] 84 (0, 0)) (by (with_reducible repeat (first | apply kdn | apply kdr | apply kal)); exact BK215.out)) : gb216 ≠ gb215)); have n9_ := am ((by rw [hg]; exact Nat.ne_of_lt (IsS139.lt (show IsS139 w0 _ g s0_0 s0_1 s0_2 from by repeat (first | (with_reducible first | exact HI0.out | apply IsS139.alloc | apply IsS139.drewN | apply IsS139.drew | apply IsS139.set_1 | apply IsS139.set_2 | refine IsS139.far ?_ NB0_215.out _) | exact HI0.out))) : g ≠ gb216)); have n10_ := am ((by rw [hg]; exact Nat.ne_of_gt (IsS139.lt (show IsS139 w0 _ g s0_0 s0_1 s0_2 from by repeat (first | (with_reducible first | exact HI0.out | apply IsS139.alloc | apply IsS139.drewN | apply IsS139.drew | apply IsS139.set_1 | apply IsS139.set_2 | refine IsS139.far ?_ NB0_215.out _) | exact HI0.out))) : gb216 ≠ g)); clear HI0; clear BK215; clear HK; clear HB; have HI0 := n0_; have BK215 := n1_; have HK := n2_; have HB := n3_; have BK216 := n4_; have GW216 := n5_; have GE216 := n6_; have NB215_216 := n7_; have NB216_215 := n8_; have NB0_216 := n9_; have NB216_0 := n10_; clear n0_ n1_ n2_ n3_ n4_ n5_ n6_ n7_ n8_ n9_ n10_; clear hb hbox hg) | ((with_reducible refine gate_dst (N := 8) rfl ?_); refine Kd.R_lit (Kd.int .i64) _ 2 ?hg (N := 8) ?hd (xs := ([1, 2, 3, 4, 5, 6, 2, 4] : List Int)) (inner := [.int .i64 1, .int .i64 2, .int .i64 3, .int .i64 4, .int .i64 5, .int .i64 6, .int .i64 2, .int .i64 4]) (ok := fun _ => True) (okp := fun _ => True) ?hr ?hp (fun _ hk => hk) trivial (Below.refl _ _) (Nat.le_refl _) (by simp) ?_; (case hd => rfl); (case hg => rfl); (case hr => first | (go_simp; done) | (go_simp; rfl)); (case hp => exact (Reps.one (show Kd.M (Kd.int .i64) _ _ _ 1 [.int .i64 1] from rfl) (Reps.one (show Kd.M (Kd.int .i64) _ _ _ 2 [.int .i64 2] from rfl) (Reps.one (show Kd.M (Kd.int .i64) _ _ _ 3 [.int .i64 3] from rfl) (Reps.one (show Kd.M (Kd.int .i64) _ _ _ 4 [.int .i64 4] from rfl) (Reps.one (show Kd.M (Kd.int .i64) _ _ _ 5 [.int .i64 5] from rfl) (Reps.one (show Kd.M (Kd.int .i64) _ _ _ 6 [.int .i64 6] from rfl) (Reps.one (show Kd.M (Kd.int .i64) _ _ _ 2 [.int .i64 2] from rfl) (Reps.one (show Kd.M (Kd.int .i64) _ _ _ 4 [.int .i64 4] from rfl) (Reps.none _ _)))))))))); intro v218 w7 ho8 hb hg_ hnew_; clear hg_ hnew_; (first | rw [← Ny217.out] at ho8 | (simp only [Int.reduceToNat] at ho8; rw [← Ny217.out] at ho8)); have n0_ := am (Kd.R_lower ho8 (keep_size (w := w) (g := g) (row := none) (by repeat (first | (with_reducible first | exact HK.out | apply KeepBut.set_ | apply keep_drewN | apply keep_drew | apply keep_alloc | refine keep_far ?_ GW215.out _ | refine keep_far ?_ GW216.out _) | exact HK.out)))); have n1_ := am (IsS139.below (by repeat (first | (with_reducible first | exact HI0.out | apply IsS139.alloc | apply IsS139.drewN | apply IsS139.drew | apply IsS139.set_1 | apply IsS139.set_2 | refine IsS139.far ?_ NB0_215.out _ | refine IsS139.far ?_ NB0_216.out _) | exact HI0.out)) hb); have n2_ := am (kbb (g := gb215) (o := .cells #[.int .i64 a1_0, .int .i64 a1_1] 84 (0, 0)) (by (with_reducible repeat (first | apply kdn | apply kdr | apply kal)); exact BK215.out) hb); have n3_ := am (kbb (g := gb216) (o := .cells #[.int .i64 0, .int .i64 0, .string (⟨#[]⟩ : ByteArray)] 60 (0, 0)) (by (with_reducible repeat (first | apply kdn | apply kdr | apply kal)); exact BK216.out) hb); have n4_ := am (KeepBut.trans (by repeat (first | (with_reducible first | exact HK.out | apply KeepBut.set_ | apply keep_drewN | apply keep_drew | apply keep_alloc | refine keep_far ?_ GW215.out _ | refine keep_far ?_ GW216.out _) | exact HK.out)) (KeepBut.of_below hb g none) (.inl rfl)); have n5_ := am (below_step (by repeat (first | (with_reducible first | exact HB.out | apply bal | apply pdn | apply bd1 | refine bst ?_ (IsS139.ge HI0.out) | refine bst ?_ GE215.out | refine bst ?_ GE216.out) | exact HB.out)) hb); clear HI0; clear BK215; clear BK216; clear HK; clear HB; have HO219 := n0_; have HI0 := n1_; have BK215 := n2_; have BK216 := n3_; have HK := n4_; have HB := n5_; clear n0_ n1_ n2_ n3_ n4_ n5_; clear hb ho8; obtain ⟨Ao9, co9, eo9⟩ := Kd.R_slice HO219.out; subst eo9) | ((with_reducible refine gate_callee (f := 124) rfl ?_); refine goesL_ (some 9) rfl rfl Try.func124 (by kernel_rfl) rfl #[.pointer (some ⟨g, 0, none⟩), .slice Ao9 y217.length co9] rfl (by (try simp only [mta, mco, mni]); first | done | rfl | (simp only [lnd, lnt]; rfl)) ?_; (with_reducible refine (spec_l00Src_among.calls g s0_0 s0_1 s0_2 _ _ y217 t220 t221 t222 w0 _ ?side1 ?side2 ?side3 ?side4 ?side5 A3.out).mono ?_); (case side1 => repeat (first | (with_reducible first | exact HI0.out | apply IsS139.alloc | apply IsS139.drewN | apply IsS139.drew | apply IsS139.set_1 | apply IsS139.set_2 | refine IsS139.far ?_ NB0_215.out _ | refine IsS139.far ?_ NB0_216.out _) | exact HI0.out)); (case side2 => repeat (first | (with_reducible first | exact HB.out | apply bal | apply pdn | apply bd1 | refine bst ?_ (IsS139.ge HI0.out) | refine bst ?_ GE215.out | refine bst ?_ GE216.out) | exact HB.out)); (case side3 => repeat (first | exact (Kd.R_reads' HO219.out).2.2 | (with_reducible first | apply kca | apply kcn | apply kcd))); (case side4 => exact (Kd.R_reads' HO219.out).2.1); (case side5 => exact far_slice (IsS139.own_ne HI0.out HO219.out (by decide))); rintro e w10 ⟨rfl, hi, hb, hk⟩; refine ⟨_, rfl, ?_⟩; have n0_ := am (KeepBut.blk hk (g' := gb215) (o := .cells #[.int .i64 a1_0, .int .i64 a1_1] 84 (0, 0)) (by (with_reducible repeat (first | apply kdn | apply kdr | apply kal)); exact BK215.out) NB215_0.out (by simp)); have n1_ := am (KeepBut.blk hk (g' := gb216) (o := .cells #[.int .i64 0, .int .i64 0, .string (⟨#[]⟩ : ByteArray)] 60 (0, 0)) (by (with_reducible repeat (first | apply kdn | apply kdr | apply kal)); exact BK216.out) NB216_0.out (by simp)); have n2_ := am (Kd.R_mono (Kd.R_keep (IsS139.apart (show IsS139 w0 _ g s0_0 s0_1 s0_2 from by repeat (first | (with_reducible first | exact HI0.out | apply IsS139.alloc | apply IsS139.drewN | apply IsS139.drew | apply IsS139.set_1 | apply IsS139.set_2 | refine IsS139.far ?_ NB0_215.out _ | refine IsS139.far ?_ NB0_216.out _) | exact HI0.out)) (by (with_reducible repeat (first | apply kra | apply krn | apply krd)); exact HO219.out) (by decide)) hk (fun _ h => h.2)) (fun _ h => h.1)); have n3_ := am (KeepBut.trans (by repeat (first | (with_reducible first | exact HK.out | apply KeepBut.set_ | apply keep_drewN | apply keep_drew | apply keep_alloc | refine keep_far ?_ GW215.out _ | refine keep_far ?_ GW216.out _) | exact HK.out)) hk (.inl rfl)); have n4_ := am (hb); have n5_ := am (hi); clear BK215; clear BK216; clear HO219; clear HK; clear HB; clear HI0; have BK215 := n0_; have BK216 := n1_; have HO219 := n2_; have HK := n3_; have HB := n4_; have HI0 := n5_; clear n0_ n1_ n2_ n3_ n4_ n5_; (try clear hb); (try clear hb2); (try clear hk); (try clear hi)))
 (try simp only [Act.put, sit, scz, scs])
 go_cut [17] (fun v17 wc => ∃ (kq : Nat) (x17_3 : Bool) (x1001_3 : Int) (x1002_3 : Int), v17 = .bool x17_3 ∧ Aside0 (spec_l16Op.j0 kq t220 x17_3 s0_0 x1001_3 x1002_3 = some (r1, r2, r3, r4, r5)) ∧ Aside0 (kq ≤ k) ∧ Aside0 (wc.heap[gb215]? = some (.cells #[.int .i64 a1_0, .int .i64 a1_1] 84 (0, 0))) ∧ Aside0 (wc.heap[gb216]? = some (.cells #[.int .i64 0, .int .i64 0, .string (⟨#[]⟩ : ByteArray)] 60 (0, 0))) ∧ Aside0 (IsS139 w0 wc g s0_0 x1001_3 x1002_3) ∧ Aside0 (KeepBut w wc g none) ∧ Aside0 (Below w0.heap.size w0 wc))
 case first =>
  have H := HC4.out
  clear HC4
  by_cases c11 : a1_0 > 1
  ·rw [if_pos c11] at H
   have c11b0 : decide (1 < a1_0) = true := decide_eq_true c11
   clear c11
   (first | rw [c11b0] | (simp only [i64_w, i32_w]; rw [c11b0]) | skip)
   replace H := Option.bind_eq_some_iff.mp H
   obtain ⟨⟨t223, t224, t225⟩, A120, H⟩ := H
   replace H : (spec_l16Op.j0 k t220 (!t223) s0_0 t224 t225) = some (r1, r2, r3, r4, r5) := H
   have A12 := am A120
   clear A120
   have H' := am H
   clear H
   have hnb13 := NB215_216.out
   have hnc13 := NB216_215.out
   have hnb14 := NB215_0.out
   have hnc14 := NB0_215.out
   have hcz15_0 : w10.cell? ⟨gb215, 0, none⟩ = some (.int .i64 a1_0) := (kce BK215.out 0).trans rfl
   have hcz15_1 : w10.cell? ⟨gb215, 1, none⟩ = some (.int .i64 a1_1) := (kce BK215.out 1).trans rfl
   have hfz15_0 := kfr BK215.out 0
   have hfz15_1 := kfr BK215.out 1
   go_wp2_with (first | (go_at_call 81; (with_reducible refine (spec_l00Src_one.calls g s0_0 t221 t222 12 t223 t224 t225 w0 _ ?side1 ?side2 A12.out).mono ?_); (case side1 => repeat (first | (with_reducible first | exact HI0.out | apply IsS139.alloc | apply IsS139.drewN | apply IsS139.drew | apply IsS139.set_1 | apply IsS139.set_2 | refine IsS139.far ?_ NB0_215.out _ | refine IsS139.far ?_ NB0_216.out _) | exact HI0.out)); (case side2 => repeat (first | (with_reducible first | exact HB.out | apply bal | apply pdn | apply bd1 | refine bst ?_ (IsS139.ge HI0.out) | refine bst ?_ GE215.out | refine bst ?_ GE216.out) | exact HB.out)); rintro e w16 ⟨rfl, hi, hb, hk⟩; have n0_ := am (KeepBut.blk hk (g' := gb215) (o := .cells #[.int .i64 a1_0, .int .i64 a1_1] 84 (0, 0)) (by (with_reducible repeat (first | apply kdn | apply kdr | apply kal)); exact BK215.out) NB215_0.out (by simp)); have n1_ := am (KeepBut.blk hk (g' := gb216) (o := .cells #[.int .i64 0, .int .i64 0, .string (⟨#[]⟩ : ByteArray)] 60 (0, 0)) (by (with_reducible repeat (first | apply kdn | apply kdr | apply kal)); exact BK216.out) NB216_0.out (by simp)); have n2_ := am (Kd.R_mono (Kd.R_keep (IsS139.apart (show IsS139 w0 _ g s0_0 t221 t222 from by repeat (first | (with_reducible first | exact HI0.out | apply IsS139.alloc | apply IsS139.drewN | apply IsS139.drew | apply IsS139.set_1 | apply IsS139.set_2 | refine IsS139.far ?_ NB0_215.out _ | refine IsS139.far ?_ NB0_216.out _) | exact HI0.out)) (by (with_reducible repeat (first | apply kra | apply krn | apply krd)); exact HO219.out) (by decide)) hk (fun _ h => h.2)) (fun _ h => h.1)); have n3_ := am (KeepBut.trans (by repeat (first | (with_reducible first | exact HK.out | apply KeepBut.set_ | apply keep_drewN | apply keep_drew | apply keep_alloc | refine keep_far ?_ GW215.out _ | refine keep_far ?_ GW216.out _) | exact HK.out)) hk (.inl rfl)); have n4_ := am (hb); have n5_ := am (hi); clear BK215; clear BK216; clear HO219; clear HK; clear HB; clear HI0; have BK215 := n0_; have BK216 := n1_; have HO219 := n2_; have HK := n3_; have HB := n4_; have HI0 := n5_; clear n0_ n1_ n2_ n3_ n4_ n5_; (try clear hb); (try clear hb2); (try clear hk); (try clear hi)))
   go_meet
   case rel => exact ⟨_, (!t223), (t224), (t225), (by first | rfl | (simp; done) | (simp [*]; done)), H', ⟨by first | omega | exact Nat.le_refl _⟩, ⟨by (with_reducible repeat (first | apply kdn | apply kdr | apply kal)); exact BK215.out⟩, ⟨by (with_reducible repeat (first | apply kdn | apply kdr | apply kal)); exact BK216.out⟩, ⟨by repeat (first | (with_reducible first | exact HI0.out | apply IsS139.alloc | apply IsS139.drewN | apply IsS139.drew | apply IsS139.set_1 | apply IsS139.set_2 | refine IsS139.far ?_ NB0_215.out _ | refine IsS139.far ?_ NB0_216.out _) | exact HI0.out)⟩, ⟨by repeat (first | (with_reducible first | exact HK.out | apply KeepBut.set_ | apply keep_drewN | apply keep_drew | apply keep_alloc | refine keep_far ?_ GW215.out _ | refine keep_far ?_ GW216.out _) | exact HK.out)⟩, ⟨by repeat (first | (with_reducible first | exact HB.out | apply bal | apply pdn | apply bd1 | refine bst ?_ (IsS139.ge HI0.out) | refine bst ?_ GE215.out | refine bst ?_ GE216.out) | exact HB.out)⟩⟩
  ·rw [if_neg c11] at H
   have c11b0 : decide (1 < a1_0) = false := decide_eq_false c11
   clear c11
   (first | rw [c11b0] | (simp only [i64_w, i32_w]; rw [c11b0]) | skip)
   have H' := am H
   clear H
   have hnb17 := NB215_216.out
   have hnc17 := NB216_215.out
   have hnb18 := NB215_0.out
   have hnc18 := NB0_215.out
   have hcz19_0 : w10.cell? ⟨gb215, 0, none⟩ = some (.int .i64 a1_0) := (kce BK215.out 0).trans rfl
   have hcz19_1 : w10.cell? ⟨gb215, 1, none⟩ = some (.int .i64 a1_1) := (kce BK215.out 1).trans rfl
   have hfz19_0 := kfr BK215.out 0
   have hfz19_1 := kfr BK215.out 1
   go_wp2
   go_meet
   case rel => exact ⟨_, (false), (t221), (t222), (by first | rfl | (simp; done) | (simp [*]; done)), H', ⟨by first | omega | exact Nat.le_refl _⟩, ⟨by (with_reducible repeat (first | apply kdn | apply kdr | apply kal)); exact BK215.out⟩, ⟨by (with_reducible repeat (first | apply kdn | apply kdr | apply kal)); exact BK216.out⟩, ⟨by repeat (first | (with_reducible first | exact HI0.out | apply IsS139.alloc | apply IsS139.drewN | apply IsS139.drew | apply IsS139.set_1 | apply IsS139.set_2 | refine IsS139.far ?_ NB0_215.out _ | refine IsS139.far ?_ NB0_216.out _) | exact HI0.out)⟩, ⟨by repeat (first | (with_reducible first | exact HK.out | apply KeepBut.set_ | apply keep_drewN | apply keep_drew | apply keep_alloc | refine keep_far ?_ GW215.out _ | refine keep_far ?_ GW216.out _) | exact HK.out)⟩, ⟨by repeat (first | (with_reducible first | exact HB.out | apply bal | apply pdn | apply bd1 | refine bst ?_ (IsS139.ge HI0.out) | refine bst ?_ GE215.out | refine bst ?_ GE216.out) | exact HB.out)⟩⟩
 case rest =>
  clear HC4
  obtain ⟨kq, x17_3, x1001_3, x1002_3, rfl, HA, HJ3, BK215, BK216, HI0, HK, HB⟩ := hcut
  cases kq with
  | zero => exact absurd HA.out (by simp [spec_l16Op.j0])
  | succ kj3 =>
   have H := HA.out
   clear HA
   simp only [spec_l16Op.j0] at H
   have HC20 := am H
   clear H
   go_upto_if 17 with (fail)
   go_cut [5] (fun v5 wc => ∃ (kq : Nat) (x5_19 : Int) (x1001_19 : Int) (x1002_19 : Int), v5 = .int .i64 x5_19 ∧ Aside0 (spec_l16Op.j1 kq x5_19 s0_0 x1001_19 x1002_19 = some (r1, r2, r3, r4, r5)) ∧ Aside0 (kq ≤ kj3) ∧ Aside0 (wc.heap[gb215]? = some (.cells #[.int .i64 a1_0, .int .i64 a1_1] 84 (0, 0))) ∧ Aside0 (wc.heap[gb216]? = some (.cells #[.int .i64 0, .int .i64 0, .string (⟨#[]⟩ : ByteArray)] 60 (0, 0))) ∧ Aside0 (IsS139 w0 wc g s0_0 x1001_19 x1002_19) ∧ Aside0 (KeepBut w wc g none) ∧ Aside0 (Below w0.heap.size w0 wc))
   case first =>
    have H := HC20.out
    clear HC20
    by_cases c21 : x17_3 = true
    ·subst c21
     have H1 : ((spec_l00Src_among.f s0_0 x1001_3 x1002_3 (([1, 2, 2, 6] : List Int))).bind fun bt229 => (spec_l16Op.j1 kj3 bt229.1 s0_0 bt229.2.1 bt229.2.2)) = some (r1, r2, r3, r4, r5) := by rw [if_pos rfl] at H; exact H
     clear H
     have H := H1
     clear H1
     obtain ⟨y226, hy226⟩ : ∃ y_ : List Int, y_ = (([1, 2, 2, 6] : List Int)) := ⟨_, rfl⟩
     replace H : ((spec_l00Src_among.f s0_0 x1001_3 x1002_3 y226).bind fun bt229 => (spec_l16Op.j1 kj3 bt229.1 s0_0 bt229.2.1 bt229.2.2)) = some (r1, r2, r3, r4, r5) := by first | (rw [hy226]; with_reducible exact H) | (have H2_ := (Option.bind_some _ _).symm.trans H; rw [hy226]; with_reducible exact H2_) | (have H2_ := (Option.bind_some _ _).symm.trans H; with_reducible exact H2_) | with_reducible exact H | (rw [hy226]; exact H) | exact H
     have Ny226 := am hy226
     clear hy226
     replace H := Option.bind_eq_some_iff.mp H
     obtain ⟨⟨t229, t230, t231⟩, A220, H⟩ := H
     replace H : (spec_l16Op.j1 kj3 t229 s0_0 t230 t231) = some (r1, r2, r3, r4, r5) := H
     have A22 := am A220
     clear A220
     have H' := am H
     clear H
     go_wp2_with (first | ((with_reducible refine gate_dst (N := 19) rfl ?_); refine Kd.R_lit (Kd.int .i64) _ 2 ?hg (N := 19) ?hd (xs := ([1, 2, 2, 6] : List Int)) (inner := [.int .i64 1, .int .i64 2, .int .i64 2, .int .i64 6]) (ok := fun _ => True) (okp := fun _ => True) ?hr ?hp (fun _ hk => hk) trivial (Below.refl _ _) (Nat.le_refl _) (by simp) ?_; (case hd => rfl); (case hg => rfl); (case hr => first | (go_simp; done) | (go_simp; rfl)); (case hp => exact (Reps.one (show Kd.M (Kd.int .i64) _ _ _ 1 [.int .i64 1] from rfl) (Reps.one (show Kd.M (Kd.int .i64) _ _ _ 2 [.int .i64 2] from rfl) (Reps.one (show Kd.M (Kd.int .i64) _ _ _ 2 [.int .i64 2] from rfl) (Reps.one (show Kd.M (Kd.int .i64) _ _ _ 6 [.int .i64 6] from rfl) (Reps.none _ _)))))); intro v227 w23 ho24 hb hg_ hnew_; clear hg_ hnew_; (first | rw [← Ny226.out] at ho24 | (simp only [Int.reduceToNat] at ho24; rw [← Ny226.out] at ho24)); have n0_ := am (Kd.R_lower ho24 (keep_size (w := w) (g := g) (row := none) (by repeat (first | (with_reducible first | exact HK.out | apply KeepBut.set_ | apply keep_drewN | apply keep_drew | apply keep_alloc | refine keep_far ?_ GW215.out _ | refine keep_far ?_ GW216.out _) | exact HK.out)))); have n1_ := am (kbb (g := gb215) (o := .cells #[.int .i64 a1_0, .int .i64 a1_1] 84 (0, 0)) (by (with_reducible repeat (first | apply kdn | apply kdr | apply kal)); exact BK215.out) hb); have n2_ := am (kbb (g := gb216) (o := .cells #[.int .i64 0, .int .i64 0, .string (⟨#[]⟩ : ByteArray)] 60 (0, 0)) (by (with_reducible repeat (first | apply kdn | apply kdr | apply kal)); exact BK216.out) hb); have n3_ := am (IsS139.below (by repeat (first | (with_reducible first | exact HI0.out | apply IsS139.alloc | apply IsS139.drewN | apply IsS139.drew | apply IsS139.set_1 | apply IsS139.set_2 | refine IsS139.far ?_ NB0_215.out _ | refine IsS139.far ?_ NB0_216.out _) | exact HI0.out)) hb); have n4_ := am (KeepBut.trans (by repeat (first | (with_reducible first | exact HK.out | apply KeepBut.set_ | apply keep_drewN | apply keep_drew | apply keep_alloc | refine keep_far ?_ GW215.out _ | refine keep_far ?_ GW216.out _) | exact HK.out)) (KeepBut.of_below hb g none) (.inl rfl)); have n5_ := am (below_step (by repeat (first | (with_reducible first | exact HB.out | apply bal | apply pdn | apply bd1 | refine bst ?_ (IsS139.ge HI0.out) | refine bst ?_ GE215.out | refine bst ?_ GE216.out) | exact HB.out)) hb); clear BK215; clear BK216; clear HI0; clear HK; clear HB; have HO228 := n0_; have BK215 := n1_; have BK216 := n2_; have HI0 := n3_; have HK := n4_; have HB := n5_; clear n0_ n1_ n2_ n3_ n4_ n5_; clear hb ho24; obtain ⟨Ao25, co25, eo25⟩ := Kd.R_slice HO228.out; subst eo25) | ((with_reducible refine gate_callee (f := 124) rfl ?_); refine goesL_ (some 20) rfl rfl Try.func124 (by kernel_rfl) rfl #[.pointer (some ⟨g, 0, none⟩), .slice Ao25 y226.length co25] rfl (by (try simp only [mta, mco, mni]); first | done | rfl | (simp only [lnd, lnt]; rfl)) ?_; (with_reducible refine (spec_l00Src_among.calls g s0_0 x1001_3 x1002_3 _ _ y226 t229 t230 t231 w0 _ ?side1 ?side2 ?side3 ?side4 ?side5 A22.out).mono ?_); (case side1 => repeat (first | (with_reducible first | exact HI0.out | apply IsS139.alloc | apply IsS139.drewN | apply IsS139.drew | apply IsS139.set_1 | apply IsS139.set_2 | refine IsS139.far ?_ NB0_215.out _ | refine IsS139.far ?_ NB0_216.out _) | exact HI0.out)); (case side2 => repeat (first | (with_reducible first | exact HB.out | apply bal | apply pdn | apply bd1 | refine bst ?_ (IsS139.ge HI0.out) | refine bst ?_ GE215.out | refine bst ?_ GE216.out) | exact HB.out)); (case side3 => repeat (first | exact (Kd.R_reads' HO228.out).2.2 | (with_reducible first | apply kca | apply kcn | apply kcd))); (case side4 => exact (Kd.R_reads' HO228.out).2.1); (case side5 => exact far_slice (IsS139.own_ne HI0.out HO228.out (by decide))); rintro e w26 ⟨rfl, hi, hb, hk⟩; refine ⟨_, rfl, ?_⟩; have n0_ := am (KeepBut.blk hk (g' := gb215) (o := .cells #[.int .i64 a1_0, .int .i64 a1_1] 84 (0, 0)) (by (with_reducible repeat (first | apply kdn | apply kdr | apply kal)); exact BK215.out) NB215_0.out (by simp)); have n1_ := am (KeepBut.blk hk (g' := gb216) (o := .cells #[.int .i64 0, .int .i64 0, .string (⟨#[]⟩ : ByteArray)] 60 (0, 0)) (by (with_reducible repeat (first | apply kdn | apply kdr | apply kal)); exact BK216.out) NB216_0.out (by simp)); have n2_ := am (Kd.R_mono (Kd.R_keep (IsS139.apart (show IsS139 w0 _ g s0_0 x1001_3 x1002_3 from by repeat (first | (with_reducible first | exact HI0.out | apply IsS139.alloc | apply IsS139.drewN | apply IsS139.drew | apply IsS139.set_1 | apply IsS139.set_2 | refine IsS139.far ?_ NB0_215.out _ | refine IsS139.far ?_ NB0_216.out _) | exact HI0.out)) (by (with_reducible repeat (first | apply kra | apply krn | apply krd)); exact HO228.out) (by decide)) hk (fun _ h => h.2)) (fun _ h => h.1)); have n3_ := am (KeepBut.trans (by repeat (first | (with_reducible first | exact HK.out | apply KeepBut.set_ | apply keep_drewN | apply keep_drew | apply keep_alloc | refine keep_far ?_ GW215.out _ | refine keep_far ?_ GW216.out _) | exact HK.out)) hk (.inl rfl)); have n4_ := am (hb); have n5_ := am (hi); clear BK215; clear BK216; clear HO228; clear HK; clear HB; clear HI0; have BK215 := n0_; have BK216 := n1_; have HO228 := n2_; have HK := n3_; have HB := n4_; have HI0 := n5_; clear n0_ n1_ n2_ n3_ n4_ n5_; (try clear hb); (try clear hb2); (try clear hk); (try clear hi)))
     go_meet
     case rel => exact ⟨_, (t229), (t230), (t231), (by first | rfl | (simp; done) | (simp [*]; done)), H', ⟨by have := HJ3.out; first | omega | exact Nat.le_refl _⟩, ⟨by (with_reducible repeat (first | apply kdn | apply kdr | apply kal)); exact BK215.out⟩, ⟨by (with_reducible repeat (first | apply kdn | apply kdr | apply kal)); exact BK216.out⟩, ⟨by repeat (first | (with_reducible first | exact HI0.out | apply IsS139.alloc | apply IsS139.drewN | apply IsS139.drew | apply IsS139.set_1 | apply IsS139.set_2 | refine IsS139.far ?_ NB0_215.out _ | refine IsS139.far ?_ NB0_216.out _) | exact HI0.out)⟩, ⟨by repeat (first | (with_reducible first | exact HK.out | apply KeepBut.set_ | apply keep_drewN | apply keep_drew | apply keep_alloc | refine keep_far ?_ GW215.out _ | refine keep_far ?_ GW216.out _) | exact HK.out)⟩, ⟨by repeat (first | (with_reducible first | exact HB.out | apply bal | apply pdn | apply bd1 | refine bst ?_ (IsS139.ge HI0.out) | refine bst ?_ GE215.out | refine bst ?_ GE216.out) | exact HB.out)⟩⟩
    ·replace c21 := Bool.eq_false_iff.mpr c21
     subst c21
     have H1 : (spec_l16Op.j1 kj3 t220 s0_0 x1001_3 x1002_3) = some (r1, r2, r3, r4, r5) := by rw [if_neg (show ¬ (false = true) by decide)] at H; exact H
     clear H
     have H := H1
     clear H1
     have H' := am H
     clear H
     go_wp2
     go_meet
     case rel => exact ⟨_, (t220), (x1001_3), (x1002_3), (by first | rfl | (simp; done) | (simp [*]; done)), H', ⟨by have := HJ3.out; first | omega | exact Nat.le_refl _⟩, ⟨by (with_reducible repeat (first | apply kdn | apply kdr | apply kal)); exact BK215.out⟩, ⟨by (with_reducible repeat (first | apply kdn | apply kdr | apply kal)); exact BK216.out⟩, ⟨by repeat (first | (with_reducible first | exact HI0.out | apply IsS139.alloc | apply IsS139.drewN | apply IsS139.drew | apply IsS139.set_1 | apply IsS139.set_2 | refine IsS139.far ?_ NB0_215.out _ | refine IsS139.far ?_ NB0_216.out _) | exact HI0.out)⟩, ⟨by repeat (first | (with_reducible first | exact HK.out | apply KeepBut.set_ | apply keep_drewN | apply keep_drew | apply keep_alloc | refine keep_far ?_ GW215.out _ | refine keep_far ?_ GW216.out _) | exact HK.out)⟩, ⟨by repeat (first | (with_reducible first | exact HB.out | apply bal | apply pdn | apply bd1 | refine bst ?_ (IsS139.ge HI0.out) | refine bst ?_ GE215.out | refine bst ?_ GE216.out) | exact HB.out)⟩⟩
   case rest =>
    clear HC20
    obtain ⟨kq, x5_19, x1001_19, x1002_19, rfl, HA, HJ19, BK215, BK216, HI0, HK, HB⟩ := hcut
    cases kq with
    | zero => exact absurd HA.out (by simp [spec_l16Op.j1])
    | succ kj19 =>
     have H := HA.out
     clear HA
     simp only [spec_l16Op.j1] at H
     have HC27 := am H
     clear H
     go_upto_region 5 with (first | ((with_reducible refine gate_dst (N := 6) rfl ?_); refine box_event ?hg (N := 6) ?hd (cs := #[.int .i64 0, .int .i64 0, .string (⟨#[]⟩ : ByteArray)]) (t := 60) ?hr ?_; (case hd => rfl); (case hg => rfl); (case hr => first | (go_simp; done) | (go_simp; rfl)); intro gb232 hg w28 hbox hb; have n0_ := am (kbb (g := gb215) (o := .cells #[.int .i64 a1_0, .int .i64 a1_1] 84 (0, 0)) (by (with_reducible repeat (first | apply kdn | apply kdr | apply kal)); exact BK215.out) hb); have n1_ := am (kbb (g := gb216) (o := .cells #[.int .i64 0, .int .i64 0, .string (⟨#[]⟩ : ByteArray)] 60 (0, 0)) (by (with_reducible repeat (first | apply kdn | apply kdr | apply kal)); exact BK216.out) hb); have n2_ := am (IsS139.below (by repeat (first | (with_reducible first | exact HI0.out | apply IsS139.alloc | apply IsS139.drewN | apply IsS139.drew | apply IsS139.set_1 | apply IsS139.set_2 | refine IsS139.far ?_ NB0_215.out _ | refine IsS139.far ?_ NB0_216.out _) | exact HI0.out)) hb); have n3_ := am (KeepBut.trans (by repeat (first | (with_reducible first | exact HK.out | apply KeepBut.set_ | apply keep_drewN | apply keep_drew | apply keep_alloc | refine keep_far ?_ GW215.out _ | refine keep_far ?_ GW216.out _) | exact HK.out)) (KeepBut.of_below hb g none) (.inl rfl)); have n4_ := am (below_step (by repeat (first | (with_reducible first | exact HB.out | apply bal | apply pdn | apply bd1 | refine bst ?_ (IsS139.ge HI0.out) | refine bst ?_ GE215.out | refine bst ?_ GE216.out) | exact HB.out)) hb); have n5_ := am (hbox); have n6_ := am ((by rw [hg]; exact (keep_size (w := w) (g := g) (row := none) (by repeat (first | (with_reducible first | exact HK.out | apply KeepBut.set_ | apply keep_drewN | apply keep_drew | apply keep_alloc | refine keep_far ?_ GW215.out _ | refine keep_far ?_ GW216.out _) | exact HK.out))) : w.heap.size ≤ gb232)); have n7_ := am ((Nat.le_trans HW0.out (by rw [hg]; exact (keep_size (w := w) (g := g) (row := none) (by repeat (first | (with_reducible first | exact HK.out | apply KeepBut.set_ | apply keep_drewN | apply keep_drew | apply keep_alloc | refine keep_far ?_ GW215.out _ | refine keep_far ?_ GW216.out _) | exact HK.out))) : w.heap.size ≤ gb232) : w0.heap.size ≤ gb232)); have n8_ := am ((by rw [hg]; exact Nat.ne_of_lt (blk_lt (g := gb215) (o := .cells #[.int .i64 a1_0, .int .i64 a1_1] 84 (0, 0)) (by (with_reducible repeat (first | apply kdn | apply kdr | apply kal)); exact BK215.out)) : gb215 ≠ gb232)); have n9_ := am ((by rw [hg]; exact Nat.ne_of_gt (blk_lt (g := gb215) (o := .cells #[.int .i64 a1_0, .int .i64 a1_1] 84 (0, 0)) (by (with_reducible repeat (first | apply kdn | apply kdr | apply kal)); exact BK215.out)) : gb232 ≠ gb215)); have n10_ := am ((by rw [hg]; exact Nat.ne_of_lt (blk_lt (g := gb216) (o := .cells #[.int .i64 0, .int .i64 0, .string (⟨#[]⟩ : ByteArray)] 60 (0, 0)) (by (with_reducible repeat (first | apply kdn | apply kdr | apply kal)); exact BK216.out)) : gb216 ≠ gb232)); have n11_ := am ((by rw [hg]; exact Nat.ne_of_gt (blk_lt (g := gb216) (o := .cells #[.int .i64 0, .int .i64 0, .string (⟨#[]⟩ : ByteArray)] 60 (0, 0)) (by (with_reducible repeat (first | apply kdn | apply kdr | apply kal)); exact BK216.out)) : gb232 ≠ gb216)); have n12_ := am ((by rw [hg]; exact Nat.ne_of_lt (IsS139.lt (show IsS139 w0 _ g s0_0 x1001_19 x1002_19 from by repeat (first | (with_reducible first | exact HI0.out | apply IsS139.alloc | apply IsS139.drewN | apply IsS139.drew | apply IsS139.set_1 | apply IsS139.set_2 | refine IsS139.far ?_ NB0_215.out _ | refine IsS139.far ?_ NB0_216.out _) | exact HI0.out))) : g ≠ gb232)); have n13_ := am ((by rw [hg]; exact Nat.ne_of_gt (IsS139.lt (show IsS139 w0 _ g s0_0 x1001_19 x1002_19 from by repeat (first | (with_reducible first | exact HI0.out | apply IsS139.alloc | apply IsS139.drewN | apply IsS139.drew | apply IsS139.set_1 | apply IsS139.set_2 | refine IsS139.far ?_ NB0_215.out _ | refine IsS139.far ?_ NB0_216.out _) | exact HI0.out))) : gb232 ≠ g)); clear BK215; clear BK216; clear HI0; clear HK; clear HB; have BK215 := n0_; have BK216 := n1_; have HI0 := n2_; have HK := n3_; have HB := n4_; have BK232 := n5_; have GW232 := n6_; have GE232 := n7_; have NB215_232 := n8_; have NB232_215 := n9_; have NB216_232 := n10_; have NB232_216 := n11_; have NB0_232 := n12_; have NB232_0 := n13_; clear n0_ n1_ n2_ n3_ n4_ n5_ n6_ n7_ n8_ n9_ n10_ n11_ n12_ n13_; clear hb hbox hg; have hnb29 := NB232_215.out; have hnc29 := NB215_232.out; have hnb30 := NB232_216.out; have hnc30 := NB216_232.out; have hnb31 := NB232_0.out; have hnc31 := NB0_232.out; have hcz32_0 : w28.cell? ⟨gb232, 0, none⟩ = some (.int .i64 0) := (kce BK232.out 0).trans rfl; have hcz32_1 : w28.cell? ⟨gb232, 1, none⟩ = some (.int .i64 0) := (kce BK232.out 1).trans rfl; have hcz32_2 : w28.cell? ⟨gb232, 2, none⟩ = some (.string (⟨#[]⟩ : ByteArray)) := (kce BK232.out 2).trans rfl; have hfz32_0 := kfr BK232.out 0; have hfz32_1 := kfr BK232.out 1; have hfz32_2 := kfr BK232.out 2))
     (try simp only [Act.put, sit, scz, scs])
     go_cut [28] (fun v28 wc => ∃ (kq : Nat) (x28_26 : Bool), v28 = .bool x28_26 ∧ Aside0 (spec_l16Op.j2 kq x5_19 x28_26 s0_0 x1001_19 x1002_19 x5_19 0 (⟨#[]⟩ : ByteArray) = some (r1, r2, r3, r4, r5)) ∧ Aside0 (kq ≤ kj19) ∧ Aside0 (wc.heap[gb215]? = some (.cells #[.int .i64 a1_0, .int .i64 a1_1] 84 (0, 0))) ∧ Aside0 (wc.heap[gb216]? = some (.cells #[.int .i64 0, .int .i64 0, .string (⟨#[]⟩ : ByteArray)] 60 (0, 0))) ∧ Aside0 (wc.heap[gb232]? = some (.cells #[.int .i64 x5_19, .int .i64 0, .string (⟨#[]⟩ : ByteArray)] 60 (0, 0))) ∧ Aside0 (IsS139 w0 wc g s0_0 x1001_19 x1002_19) ∧ Aside0 (KeepBut w wc g none) ∧ Aside0 (Below w0.heap.size w0 wc))
     case first =>
      have H := HC27.out
      clear HC27
      by_cases c33 : x5_19 = 3
      ·rw [if_pos c33] at H
       have c33b0 : (x5_19 == 3) = true := beq_iff_eq.mpr c33
       have c33b1 : (x5_19 != 3) = false := bne_eq_false_iff_eq.mpr c33
       clear c33
       (first | rw [c33b0] | (simp only [i64_w, i32_w]; rw [c33b0]) | skip)
       have H' := am H
       clear H
       go_wp2
       go_meet
       case rel => exact ⟨_, (true), (by first | rfl | (simp; done) | (simp [*]; done)), H', ⟨by have := HJ3.out; have := HJ19.out; first | omega | exact Nat.le_refl _⟩, ⟨by (with_reducible repeat (first | apply kdn | apply kdr | apply kal)); refine blk_far ?_ NB215_232.out _; (with_reducible repeat (first | apply kdn | apply kdr | apply kal)); refine blk_far ?_ NB215_232.out _; (with_reducible repeat (first | apply kdn | apply kdr | apply kal)); refine blk_far ?_ NB215_232.out _; (with_reducible repeat (first | apply kdn | apply kdr | apply kal)); exact BK215.out⟩, ⟨by (with_reducible repeat (first | apply kdn | apply kdr | apply kal)); refine blk_far ?_ NB216_232.out _; (with_reducible repeat (first | apply kdn | apply kdr | apply kal)); refine blk_far ?_ NB216_232.out _; (with_reducible repeat (first | apply kdn | apply kdr | apply kal)); refine blk_far ?_ NB216_232.out _; (with_reducible repeat (first | apply kdn | apply kdr | apply kal)); exact BK216.out⟩, ⟨by (with_reducible repeat (first | apply kdn | apply kdr | apply kal)); refine blk_put (cs := #[.int .i64 x5_19, .int .i64 0, .string (⟨#[]⟩ : ByteArray)]) ?_ 2 _ rfl; (with_reducible repeat (first | apply kdn | apply kdr | apply kal)); refine blk_put (cs := #[.int .i64 x5_19, .int .i64 0, .string (⟨#[]⟩ : ByteArray)]) ?_ 1 _ rfl; (with_reducible repeat (first | apply kdn | apply kdr | apply kal)); refine blk_put (cs := #[.int .i64 0, .int .i64 0, .string (⟨#[]⟩ : ByteArray)]) ?_ 0 _ rfl; (with_reducible repeat (first | apply kdn | apply kdr | apply kal)); exact BK232.out⟩, ⟨by repeat (first | (with_reducible first | exact HI0.out | apply IsS139.alloc | apply IsS139.drewN | apply IsS139.drew | apply IsS139.set_1 | apply IsS139.set_2 | refine IsS139.far ?_ NB0_215.out _ | refine IsS139.far ?_ NB0_216.out _ | refine IsS139.far ?_ NB0_232.out _) | exact HI0.out)⟩, ⟨by repeat (first | (with_reducible first | exact HK.out | apply KeepBut.set_ | apply keep_drewN | apply keep_drew | apply keep_alloc | refine keep_far ?_ GW215.out _ | refine keep_far ?_ GW216.out _ | refine keep_far ?_ GW232.out _) | exact HK.out)⟩, ⟨by repeat (first | (with_reducible first | exact HB.out | apply bal | apply pdn | apply bd1 | refine bst ?_ (IsS139.ge HI0.out) | refine bst ?_ GE215.out | refine bst ?_ GE216.out | refine bst ?_ GE232.out) | exact HB.out)⟩⟩
      ·rw [if_neg c33] at H
       have c33b0 : (x5_19 == 3) = false := beq_eq_false_iff_ne.mpr c33
       have c33b1 : (x5_19 != 3) = true := bne_iff_ne.mpr c33
       (first | rw [c33b0] | (simp only [i64_w, i32_w]; rw [c33b0]) | skip)
       have H' := am H
       clear H
       go_wp2
       go_meet
       case rel => exact ⟨_, ((x5_19 == 5)), (by first | rfl | (simp; done) | (simp [*]; done)), H', ⟨by have := HJ3.out; have := HJ19.out; first | omega | exact Nat.le_refl _⟩, ⟨by (with_reducible repeat (first | apply kdn | apply kdr | apply kal)); refine blk_far ?_ NB215_232.out _; (with_reducible repeat (first | apply kdn | apply kdr | apply kal)); refine blk_far ?_ NB215_232.out _; (with_reducible repeat (first | apply kdn | apply kdr | apply kal)); refine blk_far ?_ NB215_232.out _; (with_reducible repeat (first | apply kdn | apply kdr | apply kal)); exact BK215.out⟩, ⟨by (with_reducible repeat (first | apply kdn | apply kdr | apply kal)); refine blk_far ?_ NB216_232.out _; (with_reducible repeat (first | apply kdn | apply kdr | apply kal)); refine blk_far ?_ NB216_232.out _; (with_reducible repeat (first | apply kdn | apply kdr | apply kal)); refine blk_far ?_ NB216_232.out _; (with_reducible repeat (first | apply kdn | apply kdr | apply kal)); exact BK216.out⟩, ⟨by (with_reducible repeat (first | apply kdn | apply kdr | apply kal)); refine blk_put (cs := #[.int .i64 x5_19, .int .i64 0, .string (⟨#[]⟩ : ByteArray)]) ?_ 2 _ rfl; (with_reducible repeat (first | apply kdn | apply kdr | apply kal)); refine blk_put (cs := #[.int .i64 x5_19, .int .i64 0, .string (⟨#[]⟩ : ByteArray)]) ?_ 1 _ rfl; (with_reducible repeat (first | apply kdn | apply kdr | apply kal)); refine blk_put (cs := #[.int .i64 0, .int .i64 0, .string (⟨#[]⟩ : ByteArray)]) ?_ 0 _ rfl; (with_reducible repeat (first | apply kdn | apply kdr | apply kal)); exact BK232.out⟩, ⟨by repeat (first | (with_reducible first | exact HI0.out | apply IsS139.alloc | apply IsS139.drewN | apply IsS139.drew | apply IsS139.set_1 | apply IsS139.set_2 | refine IsS139.far ?_ NB0_215.out _ | refine IsS139.far ?_ NB0_216.out _ | refine IsS139.far ?_ NB0_232.out _) | exact HI0.out)⟩, ⟨by repeat (first | (with_reducible first | exact HK.out | apply KeepBut.set_ | apply keep_drewN | apply keep_drew | apply keep_alloc | refine keep_far ?_ GW215.out _ | refine keep_far ?_ GW216.out _ | refine keep_far ?_ GW232.out _) | exact HK.out)⟩, ⟨by repeat (first | (with_reducible first | exact HB.out | apply bal | apply pdn | apply bd1 | refine bst ?_ (IsS139.ge HI0.out) | refine bst ?_ GE215.out | refine bst ?_ GE216.out | refine bst ?_ GE232.out) | exact HB.out)⟩⟩
     case rest =>
      clear HC27
      obtain ⟨kq, x28_26, rfl, HA, HJ26, BK215, BK216, BK232, HI0, HK, HB⟩ := hcut
      cases kq with
      | zero => exact absurd HA.out (by simp [spec_l16Op.j2])
      | succ kj26 =>
       have H := HA.out
       clear HA
       simp only [spec_l16Op.j2] at H
       have HC34 := am H
       clear H
       go_upto_if 28 with (fail)
       go_cut [] (fun wc => ∃ (kq : Nat) (x1001_33 : Int) (x1002_33 : Int) (x233001_33 : Int), Aside0 (spec_l16Op.j3 kq x5_19 s0_0 x1001_33 x1002_33 x5_19 x233001_33 (⟨#[]⟩ : ByteArray) = some (r1, r2, r3, r4, r5)) ∧ Aside0 (kq ≤ kj26) ∧ Aside0 (wc.heap[gb215]? = some (.cells #[.int .i64 a1_0, .int .i64 a1_1] 84 (0, 0))) ∧ Aside0 (wc.heap[gb216]? = some (.cells #[.int .i64 0, .int .i64 0, .string (⟨#[]⟩ : ByteArray)] 60 (0, 0))) ∧ Aside0 (wc.heap[gb232]? = some (.cells #[.int .i64 x5_19, .int .i64 x233001_33, .string (⟨#[]⟩ : ByteArray)] 60 (0, 0))) ∧ Aside0 (IsS139 w0 wc g s0_0 x1001_33 x1002_33) ∧ Aside0 (KeepBut w wc g none) ∧ Aside0 (Below w0.heap.size w0 wc))
       case first =>
        have H := HC34.out
        clear HC34
        by_cases c35 : x28_26 = true
        ·subst c35
         have H1 : ((spec_l00Src_pick.f s0_0 x1001_19 x1002_19 12).bind fun bt233 => ((spec_l00Src_one.f s0_0 bt233.2.1 bt233.2.2 8).bind fun bt236 => (if bt236.1 = true then ((spec_l00Src_pick.f s0_0 bt236.2.1 bt236.2.2 3).bind fun bt239 => (spec_l16Op.j3 kj26 x5_19 s0_0 bt239.2.1 bt239.2.2 x5_19 (wrap64 (63 + bt239.1)) (⟨#[]⟩ : ByteArray))) else (spec_l16Op.j3 kj26 x5_19 s0_0 bt236.2.1 bt236.2.2 x5_19 bt233.1 (⟨#[]⟩ : ByteArray))))) = some (r1, r2, r3, r4, r5) := by rw [if_pos rfl] at H; exact H
         clear H
         have H := H1
         clear H1
         replace H := Option.bind_eq_some_iff.mp H
         obtain ⟨⟨t233, t234, t235⟩, A360, H⟩ := H
         replace H : ((spec_l00Src_one.f s0_0 t234 t235 8).bind fun bt236 => (if bt236.1 = true then ((spec_l00Src_pick.f s0_0 bt236.2.1 bt236.2.2 3).bind fun bt239 => (spec_l16Op.j3 kj26 x5_19 s0_0 bt239.2.1 bt239.2.2 x5_19 (wrap64 (63 + bt239.1)) (⟨#[]⟩ : ByteArray))) else (spec_l16Op.j3 kj26 x5_19 s0_0 bt236.2.1 bt236.2.2 x5_19 t233 (⟨#[]⟩ : ByteArray)))) = some (r1, r2, r3, r4, r5) := H
         have A36 := am A360
         clear A360
         replace H := Option.bind_eq_some_iff.mp H
         obtain ⟨⟨t236, t237, t238⟩, A370, H⟩ := H
         replace H : (if t236 = true then ((spec_l00Src_pick.f s0_0 t237 t238 3).bind fun bt239 => (spec_l16Op.j3 kj26 x5_19 s0_0 bt239.2.1 bt239.2.2 x5_19 (wrap64 (63 + bt239.1)) (⟨#[]⟩ : ByteArray))) else (spec_l16Op.j3 kj26 x5_19 s0_0 t237 t238 x5_19 t233 (⟨#[]⟩ : ByteArray))) = some (r1, r2, r3, r4, r5) := H
         have A37 := am A370
         clear A370
         by_cases c38 : t236 = true
         ·subst c38
          have H1 : ((spec_l00Src_pick.f s0_0 t237 t238 3).bind fun bt239 => (spec_l16Op.j3 kj26 x5_19 s0_0 bt239.2.1 bt239.2.2 x5_19 (wrap64 (63 + bt239.1)) (⟨#[]⟩ : ByteArray))) = some (r1, r2, r3, r4, r5) := by rw [if_pos rfl] at H; exact H
          clear H
          have H := H1
          clear H1
          replace H := Option.bind_eq_some_iff.mp H
          obtain ⟨⟨t239, t240, t241⟩, A390, H⟩ := H
          replace H : (spec_l16Op.j3 kj26 x5_19 s0_0 t240 t241 x5_19 (wrap64 (63 + t239)) (⟨#[]⟩ : ByteArray)) = some (r1, r2, r3, r4, r5) := H
          have A39 := am A390
          clear A390
          have H' := am H
          clear H
          go_wp2_with (first | ((with_reducible refine gate_callee (f := 82) rfl ?_); refine goesL_ (some 30) rfl rfl Try.func82 (by kernel_rfl) rfl #[.pointer (some ⟨g, 0, none⟩), .int .i64 12] rfl (by (try simp only [mta, mco, mni]); first | done | rfl | (simp only [lnd, lnt]; rfl)) ?_; (with_reducible refine (spec_l00Src_pick.calls g s0_0 x1001_19 x1002_19 12 t233 t234 t235 w0 _ ?side1 ?side2 A36.out).mono ?_); (case side1 => repeat (first | (with_reducible first | exact HI0.out | apply IsS139.alloc | apply IsS139.drewN | apply IsS139.drew | apply IsS139.set_1 | apply IsS139.set_2 | refine IsS139.far ?_ NB0_215.out _ | refine IsS139.far ?_ NB0_216.out _ | refine IsS139.far ?_ NB0_232.out _) | exact HI0.out)); (case side2 => repeat (first | (with_reducible first | exact HB.out | apply bal | apply pdn | apply bd1 | refine bst ?_ (IsS139.ge HI0.out) | refine bst ?_ GE215.out | refine bst ?_ GE216.out | refine bst ?_ GE232.out) | exact HB.out)); rintro e w40 ⟨rfl, hi, hb, hk⟩; refine ⟨_, rfl, ?_⟩; have n0_ := am (KeepBut.blk hk (g' := gb215) (o := .cells #[.int .i64 a1_0, .int .i64 a1_1] 84 (0, 0)) (by (with_reducible repeat (first | apply kdn | apply kdr | apply kal)); exact BK215.out) NB215_0.out (by simp)); have n1_ := am (KeepBut.blk hk (g' := gb216) (o := .cells #[.int .i64 0, .int .i64 0, .string (⟨#[]⟩ : ByteArray)] 60 (0, 0)) (by (with_reducible repeat (first | apply kdn | apply kdr | apply kal)); exact BK216.out) NB216_0.out (by simp)); have n2_ := am (KeepBut.blk hk (g' := gb232) (o := .cells #[.int .i64 x5_19, .int .i64 0, .string (⟨#[]⟩ : ByteArray)] 60 (0, 0)) (by (with_reducible repeat (first | apply kdn | apply kdr | apply kal)); exact BK232.out) NB232_0.out (by simp)); have n3_ := am (KeepBut.trans (by repeat (first | (with_reducible first | exact HK.out | apply KeepBut.set_ | apply keep_drewN | apply keep_drew | apply keep_alloc | refine keep_far ?_ GW215.out _ | refine keep_far ?_ GW216.out _ | refine keep_far ?_ GW232.out _) | exact HK.out)) hk (.inl rfl)); have n4_ := am (hb); have n5_ := am (hi); clear BK215; clear BK216; clear BK232; clear HK; clear HB; clear HI0; have BK215 := n0_; have BK216 := n1_; have BK232 := n2_; have HK := n3_; have HB := n4_; have HI0 := n5_; clear n0_ n1_ n2_ n3_ n4_ n5_; (try clear hb); (try clear hb2); (try clear hk); (try clear hi); have hnb41 := NB232_215.out; have hnc41 := NB215_232.out; have hnb42 := NB232_216.out; have hnc42 := NB216_232.out; have hnb43 := NB232_0.out; have hnc43 := NB0_232.out; have hcz44_0 : w40.cell? ⟨gb232, 0, none⟩ = some (.int .i64 x5_19) := (kce BK232.out 0).trans rfl; have hcz44_1 : w40.cell? ⟨gb232, 1, none⟩ = some (.int .i64 0) := (kce BK232.out 1).trans rfl; have hcz44_2 : w40.cell? ⟨gb232, 2, none⟩ = some (.string (⟨#[]⟩ : ByteArray)) := (kce BK232.out 2).trans rfl; have hfz44_0 := kfr BK232.out 0; have hfz44_1 := kfr BK232.out 1; have hfz44_2 := kfr BK232.out 2) | ((with_reducible refine gate_callee (f := 81) rfl ?_); refine goesL_ (some 33) rfl rfl Try.func81 (by kernel_rfl) rfl #[.pointer (some ⟨g, 0, none⟩), .int .i64 8] rfl (by (try simp only [mta, mco, mni]); first | done | rfl | (simp only [lnd, lnt]; rfl)) ?_; (with_reducible refine (spec_l00Src_one.calls g s0_0 t234 t235 8 true t237 t238 w0 _ ?side1 ?side2 A37.out).mono ?_); (case side1 => repeat (first | (with_reducible first | exact HI0.out | apply IsS139.alloc | apply IsS139.drewN | apply IsS139.drew | apply IsS139.set_1 | apply IsS139.set_2 | refine IsS139.far ?_ NB0_215.out _ | refine IsS139.far ?_ NB0_216.out _ | refine IsS139.far ?_ NB0_232.out _) | exact HI0.out)); (case side2 => repeat (first | (with_reducible first | exact HB.out | apply bal | apply pdn | apply bd1 | refine bst ?_ (IsS139.ge HI0.out) | refine bst ?_ GE215.out | refine bst ?_ GE216.out | refine bst ?_ GE232.out) | exact HB.out)); rintro e w45 ⟨rfl, hi, hb, hk⟩; refine ⟨_, rfl, ?_⟩; have n0_ := am (KeepBut.blk hk (g' := gb215) (o := .cells #[.int .i64 a1_0, .int .i64 a1_1] 84 (0, 0)) (by (with_reducible repeat (first | apply kdn | apply kdr | apply kal)); refine blk_far ?_ NB215_232.out _; (with_reducible repeat (first | apply kdn | apply kdr | apply kal)); exact BK215.out) NB215_0.out (by simp)); have n1_ := am (KeepBut.blk hk (g' := gb216) (o := .cells #[.int .i64 0, .int .i64 0, .string (⟨#[]⟩ : ByteArray)] 60 (0, 0)) (by (with_reducible repeat (first | apply kdn | apply kdr | apply kal)); refine blk_far ?_ NB216_232.out _; (with_reducible repeat (first | apply kdn | apply kdr | apply kal)); exact BK216.out) NB216_0.out (by simp)); have n2_ := am (KeepBut.blk hk (g' := gb232) (o := .cells #[.int .i64 x5_19, .int .i64 t233, .string (⟨#[]⟩ : ByteArray)] 60 (0, 0)) (by (with_reducible repeat (first | apply kdn | apply kdr | apply kal)); refine blk_put (cs := #[.int .i64 x5_19, .int .i64 0, .string (⟨#[]⟩ : ByteArray)]) ?_ 1 _ rfl; (with_reducible repeat (first | apply kdn | apply kdr | apply kal)); exact BK232.out) NB232_0.out (by simp)); have n3_ := am (KeepBut.trans (by repeat (first | (with_reducible first | exact HK.out | apply KeepBut.set_ | apply keep_drewN | apply keep_drew | apply keep_alloc | refine keep_far ?_ GW215.out _ | refine keep_far ?_ GW216.out _ | refine keep_far ?_ GW232.out _) | exact HK.out)) hk (.inl rfl)); have n4_ := am (hb); have n5_ := am (hi); clear BK215; clear BK216; clear BK232; clear HK; clear HB; clear HI0; have BK215 := n0_; have BK216 := n1_; have BK232 := n2_; have HK := n3_; have HB := n4_; have HI0 := n5_; clear n0_ n1_ n2_ n3_ n4_ n5_; (try clear hb); (try clear hb2); (try clear hk); (try clear hi)) | ((with_reducible refine gate_callee (f := 82) rfl ?_); refine goesL_ (some 35) rfl rfl Try.func82 (by kernel_rfl) rfl #[.pointer (some ⟨g, 0, none⟩), .int .i64 3] rfl (by (try simp only [mta, mco, mni]); first | done | rfl | (simp only [lnd, lnt]; rfl)) ?_; (with_reducible refine (spec_l00Src_pick.calls g s0_0 t237 t238 3 t239 t240 t241 w0 _ ?side1 ?side2 A39.out).mono ?_); (case side1 => repeat (first | (with_reducible first | exact HI0.out | apply IsS139.alloc | apply IsS139.drewN | apply IsS139.drew | apply IsS139.set_1 | apply IsS139.set_2 | refine IsS139.far ?_ NB0_215.out _ | refine IsS139.far ?_ NB0_216.out _ | refine IsS139.far ?_ NB0_232.out _) | exact HI0.out)); (case side2 => repeat (first | (with_reducible first | exact HB.out | apply bal | apply pdn | apply bd1 | refine bst ?_ (IsS139.ge HI0.out) | refine bst ?_ GE215.out | refine bst ?_ GE216.out | refine bst ?_ GE232.out) | exact HB.out)); rintro e w46 ⟨rfl, hi, hb, hk⟩; refine ⟨_, rfl, ?_⟩; have n0_ := am (KeepBut.blk hk (g' := gb215) (o := .cells #[.int .i64 a1_0, .int .i64 a1_1] 84 (0, 0)) (by (with_reducible repeat (first | apply kdn | apply kdr | apply kal)); exact BK215.out) NB215_0.out (by simp)); have n1_ := am (KeepBut.blk hk (g' := gb216) (o := .cells #[.int .i64 0, .int .i64 0, .string (⟨#[]⟩ : ByteArray)] 60 (0, 0)) (by (with_reducible repeat (first | apply kdn | apply kdr | apply kal)); exact BK216.out) NB216_0.out (by simp)); have n2_ := am (KeepBut.blk hk (g' := gb232) (o := .cells #[.int .i64 x5_19, .int .i64 t233, .string (⟨#[]⟩ : ByteArray)] 60 (0, 0)) (by (with_reducible repeat (first | apply kdn | apply kdr | apply kal)); exact BK232.out) NB232_0.out (by simp)); have n3_ := am (KeepBut.trans (by repeat (first | (with_reducible first | exact HK.out | apply KeepBut.set_ | apply keep_drewN | apply keep_drew | apply keep_alloc | refine keep_far ?_ GW215.out _ | refine keep_far ?_ GW216.out _ | refine keep_far ?_ GW232.out _) | exact HK.out)) hk (.inl rfl)); have n4_ := am (hb); have n5_ := am (hi); clear BK215; clear BK216; clear BK232; clear HK; clear HB; clear HI0; have BK215 := n0_; have BK216 := n1_; have BK232 := n2_; have HK := n3_; have HB := n4_; have HI0 := n5_; clear n0_ n1_ n2_ n3_ n4_ n5_; (try clear hb); (try clear hb2); (try clear hk); (try clear hi); have hcz47_0 : w46.cell? ⟨gb232, 0, none⟩ = some (.int .i64 x5_19) := (kce BK232.out 0).trans rfl; have hcz47_1 : w46.cell? ⟨gb232, 1, none⟩ = some (.int .i64 t233) := (kce BK232.out 1).trans rfl; have hcz47_2 : w46.cell? ⟨gb232, 2, none⟩ = some (.string (⟨#[]⟩ : ByteArray)) := (kce BK232.out 2).trans rfl; have hfz47_0 := kfr BK232.out 0; have hfz47_1 := kfr BK232.out 1; have hfz47_2 := kfr BK232.out 2))
          go_meet
          case rel => exact ⟨_, (t240), (t241), (wrap64 (63 + t239)), H', ⟨by have := HJ3.out; have := HJ19.out; have := HJ26.out; first | omega | exact Nat.le_refl _⟩, ⟨by (with_reducible repeat (first | apply kdn | apply kdr | apply kal)); refine blk_far ?_ NB215_232.out _; (with_reducible repeat (first | apply kdn | apply kdr | apply kal)); exact BK215.out⟩, ⟨by (with_reducible repeat (first | apply kdn | apply kdr | apply kal)); refine blk_far ?_ NB216_232.out _; (with_reducible repeat (first | apply kdn | apply kdr | apply kal)); exact BK216.out⟩, ⟨by (with_reducible repeat (first | apply kdn | apply kdr | apply kal)); refine blk_put (cs := #[.int .i64 x5_19, .int .i64 t233, .string (⟨#[]⟩ : ByteArray)]) ?_ 1 _ rfl; (with_reducible repeat (first | apply kdn | apply kdr | apply kal)); exact BK232.out⟩, ⟨by repeat (first | (with_reducible first | exact HI0.out | apply IsS139.alloc | apply IsS139.drewN | apply IsS139.drew | apply IsS139.set_1 | apply IsS139.set_2 | refine IsS139.far ?_ NB0_215.out _ | refine IsS139.far ?_ NB0_216.out _ | refine IsS139.far ?_ NB0_232.out _) | exact HI0.out)⟩, ⟨by repeat (first | (with_reducible first | exact HK.out | apply KeepBut.set_ | apply keep_drewN | apply keep_drew | apply keep_alloc | refine keep_far ?_ GW215.out _ | refine keep_far ?_ GW216.out _ | refine keep_far ?_ GW232.out _) | exact HK.out)⟩, ⟨by repeat (first | (with_reducible first | exact HB.out | apply bal | apply pdn | apply bd1 | refine bst ?_ (IsS139.ge HI0.out) | refine bst ?_ GE215.out | refine bst ?_ GE216.out | refine bst ?_ GE232.out) | exact HB.out)⟩⟩
         ·replace c38 := Bool.eq_false_iff.mpr c38
          subst c38
          have H1 : (spec_l16Op.j3 kj26 x5_19 s0_0 t237 t238 x5_19 t233 (⟨#[]⟩ : ByteArray)) = some (r1, r2, r3, r4, r5) := by rw [if_neg (show ¬ (false = true) by decide)] at H; exact H
          clear H
          have H := H1
          clear H1
          have H' := am H
          clear H
          go_wp2_with (first | ((with_reducible refine gate_callee (f := 82) rfl ?_); refine goesL_ (some 30) rfl rfl Try.func82 (by kernel_rfl) rfl #[.pointer (some ⟨g, 0, none⟩), .int .i64 12] rfl (by (try simp only [mta, mco, mni]); first | done | rfl | (simp only [lnd, lnt]; rfl)) ?_; (with_reducible refine (spec_l00Src_pick.calls g s0_0 x1001_19 x1002_19 12 t233 t234 t235 w0 _ ?side1 ?side2 A36.out).mono ?_); (case side1 => repeat (first | (with_reducible first | exact HI0.out | apply IsS139.alloc | apply IsS139.drewN | apply IsS139.drew | apply IsS139.set_1 | apply IsS139.set_2 | refine IsS139.far ?_ NB0_215.out _ | refine IsS139.far ?_ NB0_216.out _ | refine IsS139.far ?_ NB0_232.out _) | exact HI0.out)); (case side2 => repeat (first | (with_reducible first | exact HB.out | apply bal | apply pdn | apply bd1 | refine bst ?_ (IsS139.ge HI0.out) | refine bst ?_ GE215.out | refine bst ?_ GE216.out | refine bst ?_ GE232.out) | exact HB.out)); rintro e w48 ⟨rfl, hi, hb, hk⟩; refine ⟨_, rfl, ?_⟩; have n0_ := am (KeepBut.blk hk (g' := gb215) (o := .cells #[.int .i64 a1_0, .int .i64 a1_1] 84 (0, 0)) (by (with_reducible repeat (first | apply kdn | apply kdr | apply kal)); exact BK215.out) NB215_0.out (by simp)); have n1_ := am (KeepBut.blk hk (g' := gb216) (o := .cells #[.int .i64 0, .int .i64 0, .string (⟨#[]⟩ : ByteArray)] 60 (0, 0)) (by (with_reducible repeat (first | apply kdn | apply kdr | apply kal)); exact BK216.out) NB216_0.out (by simp)); have n2_ := am (KeepBut.blk hk (g' := gb232) (o := .cells #[.int .i64 x5_19, .int .i64 0, .string (⟨#[]⟩ : ByteArray)] 60 (0, 0)) (by (with_reducible repeat (first | apply kdn | apply kdr | apply kal)); exact BK232.out) NB232_0.out (by simp)); have n3_ := am (KeepBut.trans (by repeat (first | (with_reducible first | exact HK.out | apply KeepBut.set_ | apply keep_drewN | apply keep_drew | apply keep_alloc | refine keep_far ?_ GW215.out _ | refine keep_far ?_ GW216.out _ | refine keep_far ?_ GW232.out _) | exact HK.out)) hk (.inl rfl)); have n4_ := am (hb); have n5_ := am (hi); clear BK215; clear BK216; clear BK232; clear HK; clear HB; clear HI0; have BK215 := n0_; have BK216 := n1_; have BK232 := n2_; have HK := n3_; have HB := n4_; have HI0 := n5_; clear n0_ n1_ n2_ n3_ n4_ n5_; (try clear hb); (try clear hb2); (try clear hk); (try clear hi); have hnb49 := NB232_215.out; have hnc49 := NB215_232.out; have hnb50 := NB232_216.out; have hnc50 := NB216_232.out; have hnb51 := NB232_0.out; have hnc51 := NB0_232.out; have hcz52_0 : w48.cell? ⟨gb232, 0, none⟩ = some (.int .i64 x5_19) := (kce BK232.out 0).trans rfl; have hcz52_1 : w48.cell? ⟨gb232, 1, none⟩ = some (.int .i64 0) := (kce BK232.out 1).trans rfl; have hcz52_2 : w48.cell? ⟨gb232, 2, none⟩ = some (.string (⟨#[]⟩ : ByteArray)) := (kce BK232.out 2).trans rfl; have hfz52_0 := kfr BK232.out 0; have hfz52_1 := kfr BK232.out 1; have hfz52_2 := kfr BK232.out 2) | ((with_reducible refine gate_callee (f := 81) rfl ?_); refine goesL_ (some 33) rfl rfl Try.func81 (by kernel_rfl) rfl #[.pointer (some ⟨g, 0, none⟩), .int .i64 8] rfl (by (try simp only [mta, mco, mni]); first | done | rfl | (simp only [lnd, lnt]; rfl)) ?_; (with_reducible refine (spec_l00Src_one.calls g s0_0 t234 t235 8 false t237 t238 w0 _ ?side1 ?side2 A37.out).mono ?_); (case side1 => repeat (first | (with_reducible first | exact HI0.out | apply IsS139.alloc | apply IsS139.drewN | apply IsS139.drew | apply IsS139.set_1 | apply IsS139.set_2 | refine IsS139.far ?_ NB0_215.out _ | refine IsS139.far ?_ NB0_216.out _ | refine IsS139.far ?_ NB0_232.out _) | exact HI0.out)); (case side2 => repeat (first | (with_reducible first | exact HB.out | apply bal | apply pdn | apply bd1 | refine bst ?_ (IsS139.ge HI0.out) | refine bst ?_ GE215.out | refine bst ?_ GE216.out | refine bst ?_ GE232.out) | exact HB.out)); rintro e w53 ⟨rfl, hi, hb, hk⟩; refine ⟨_, rfl, ?_⟩; have n0_ := am (KeepBut.blk hk (g' := gb215) (o := .cells #[.int .i64 a1_0, .int .i64 a1_1] 84 (0, 0)) (by (with_reducible repeat (first | apply kdn | apply kdr | apply kal)); refine blk_far ?_ NB215_232.out _; (with_reducible repeat (first | apply kdn | apply kdr | apply kal)); exact BK215.out) NB215_0.out (by simp)); have n1_ := am (KeepBut.blk hk (g' := gb216) (o := .cells #[.int .i64 0, .int .i64 0, .string (⟨#[]⟩ : ByteArray)] 60 (0, 0)) (by (with_reducible repeat (first | apply kdn | apply kdr | apply kal)); refine blk_far ?_ NB216_232.out _; (with_reducible repeat (first | apply kdn | apply kdr | apply kal)); exact BK216.out) NB216_0.out (by simp)); have n2_ := am (KeepBut.blk hk (g' := gb232) (o := .cells #[.int .i64 x5_19, .int .i64 t233, .string (⟨#[]⟩ : ByteArray)] 60 (0, 0)) (by (with_reducible repeat (first | apply kdn | apply kdr | apply kal)); refine blk_put (cs := #[.int .i64 x5_19, .int .i64 0, .string (⟨#[]⟩ : ByteArray)]) ?_ 1 _ rfl; (with_reducible repeat (first | apply kdn | apply kdr | apply kal)); exact BK232.out) NB232_0.out (by simp)); have n3_ := am (KeepBut.trans (by repeat (first | (with_reducible first | exact HK.out | apply KeepBut.set_ | apply keep_drewN | apply keep_drew | apply keep_alloc | refine keep_far ?_ GW215.out _ | refine keep_far ?_ GW216.out _ | refine keep_far ?_ GW232.out _) | exact HK.out)) hk (.inl rfl)); have n4_ := am (hb); have n5_ := am (hi); clear BK215; clear BK216; clear BK232; clear HK; clear HB; clear HI0; have BK215 := n0_; have BK216 := n1_; have BK232 := n2_; have HK := n3_; have HB := n4_; have HI0 := n5_; clear n0_ n1_ n2_ n3_ n4_ n5_; (try clear hb); (try clear hb2); (try clear hk); (try clear hi)))
          go_meet
          case rel => exact ⟨_, (t237), (t238), (t233), H', ⟨by have := HJ3.out; have := HJ19.out; have := HJ26.out; first | omega | exact Nat.le_refl _⟩, ⟨by (with_reducible repeat (first | apply kdn | apply kdr | apply kal)); exact BK215.out⟩, ⟨by (with_reducible repeat (first | apply kdn | apply kdr | apply kal)); exact BK216.out⟩, ⟨by (with_reducible repeat (first | apply kdn | apply kdr | apply kal)); exact BK232.out⟩, ⟨by repeat (first | (with_reducible first | exact HI0.out | apply IsS139.alloc | apply IsS139.drewN | apply IsS139.drew | apply IsS139.set_1 | apply IsS139.set_2 | refine IsS139.far ?_ NB0_215.out _ | refine IsS139.far ?_ NB0_216.out _ | refine IsS139.far ?_ NB0_232.out _) | exact HI0.out)⟩, ⟨by repeat (first | (with_reducible first | exact HK.out | apply KeepBut.set_ | apply keep_drewN | apply keep_drew | apply keep_alloc | refine keep_far ?_ GW215.out _ | refine keep_far ?_ GW216.out _ | refine keep_far ?_ GW232.out _) | exact HK.out)⟩, ⟨by repeat (first | (with_reducible first | exact HB.out | apply bal | apply pdn | apply bd1 | refine bst ?_ (IsS139.ge HI0.out) | refine bst ?_ GE215.out | refine bst ?_ GE216.out | refine bst ?_ GE232.out) | exact HB.out)⟩⟩
        ·replace c35 := Bool.eq_false_iff.mpr c35
         subst c35
         have H1 : (spec_l16Op.j3 kj26 x5_19 s0_0 x1001_19 x1002_19 x5_19 0 (⟨#[]⟩ : ByteArray)) = some (r1, r2, r3, r4, r5) := by rw [if_neg (show ¬ (false = true) by decide)] at H; exact H
         clear H
         have H := H1
         clear H1
         have H' := am H
         clear H
         go_wp2
         go_meet
         case rel => exact ⟨_, (x1001_19), (x1002_19), (0), H', ⟨by have := HJ3.out; have := HJ19.out; have := HJ26.out; first | omega | exact Nat.le_refl _⟩, ⟨by (with_reducible repeat (first | apply kdn | apply kdr | apply kal)); exact BK215.out⟩, ⟨by (with_reducible repeat (first | apply kdn | apply kdr | apply kal)); exact BK216.out⟩, ⟨by (with_reducible repeat (first | apply kdn | apply kdr | apply kal)); exact BK232.out⟩, ⟨by repeat (first | (with_reducible first | exact HI0.out | apply IsS139.alloc | apply IsS139.drewN | apply IsS139.drew | apply IsS139.set_1 | apply IsS139.set_2 | refine IsS139.far ?_ NB0_215.out _ | refine IsS139.far ?_ NB0_216.out _ | refine IsS139.far ?_ NB0_232.out _) | exact HI0.out)⟩, ⟨by repeat (first | (with_reducible first | exact HK.out | apply KeepBut.set_ | apply keep_drewN | apply keep_drew | apply keep_alloc | refine keep_far ?_ GW215.out _ | refine keep_far ?_ GW216.out _ | refine keep_far ?_ GW232.out _) | exact HK.out)⟩, ⟨by repeat (first | (with_reducible first | exact HB.out | apply bal | apply pdn | apply bd1 | refine bst ?_ (IsS139.ge HI0.out) | refine bst ?_ GE215.out | refine bst ?_ GE216.out | refine bst ?_ GE232.out) | exact HB.out)⟩⟩
       case rest =>
        clear HC34
        obtain ⟨kq, x1001_33, x1002_33, x233001_33, HA, HJ33, BK215, BK216, BK232, HI0, HK, HB⟩ := hcut
        cases kq with
        | zero => exact absurd HA.out (by simp [spec_l16Op.j3])
        | succ kj33 =>
         have H := HA.out
         clear HA
         simp only [spec_l16Op.j3] at H
         have HC54 := am H
         clear H
         go_upto_region 9 with (fail)
         go_cut [47] (fun v47 wc => ∃ (kq : Nat) (x47_53 : Bool), v47 = .bool x47_53 ∧ Aside0 (spec_l16Op.j4 kq x47_53 s0_0 x1001_33 x1002_33 x5_19 x233001_33 (⟨#[]⟩ : ByteArray) = some (r1, r2, r3, r4, r5)) ∧ Aside0 (kq ≤ kj33) ∧ Aside0 (wc.heap[gb215]? = some (.cells #[.int .i64 a1_0, .int .i64 a1_1] 84 (0, 0))) ∧ Aside0 (wc.heap[gb216]? = some (.cells #[.int .i64 0, .int .i64 0, .string (⟨#[]⟩ : ByteArray)] 60 (0, 0))) ∧ Aside0 (wc.heap[gb232]? = some (.cells #[.int .i64 x5_19, .int .i64 x233001_33, .string (⟨#[]⟩ : ByteArray)] 60 (0, 0))) ∧ Aside0 (IsS139 w0 wc g s0_0 x1001_33 x1002_33) ∧ Aside0 (KeepBut w wc g none) ∧ Aside0 (Below w0.heap.size w0 wc))
         case first =>
          have H := HC54.out
          clear HC54
          by_cases c55 : x5_19 = 2
          ·rw [if_pos c55] at H
           have c55b0 : (x5_19 == 2) = true := beq_iff_eq.mpr c55
           have c55b1 : (x5_19 != 2) = false := bne_eq_false_iff_eq.mpr c55
           clear c55
           (first | rw [c55b0] | (simp only [i64_w, i32_w]; rw [c55b0]) | skip)
           have H' := am H
           clear H
           go_wp2
           go_meet
           case rel => exact ⟨_, (true), (by first | rfl | (simp; done) | (simp [*]; done)), H', ⟨by have := HJ3.out; have := HJ19.out; have := HJ26.out; have := HJ33.out; first | omega | exact Nat.le_refl _⟩, ⟨by (with_reducible repeat (first | apply kdn | apply kdr | apply kal)); exact BK215.out⟩, ⟨by (with_reducible repeat (first | apply kdn | apply kdr | apply kal)); exact BK216.out⟩, ⟨by (with_reducible repeat (first | apply kdn | apply kdr | apply kal)); exact BK232.out⟩, ⟨by repeat (first | (with_reducible first | exact HI0.out | apply IsS139.alloc | apply IsS139.drewN | apply IsS139.drew | apply IsS139.set_1 | apply IsS139.set_2 | refine IsS139.far ?_ NB0_215.out _ | refine IsS139.far ?_ NB0_216.out _ | refine IsS139.far ?_ NB0_232.out _) | exact HI0.out)⟩, ⟨by repeat (first | (with_reducible first | exact HK.out | apply KeepBut.set_ | apply keep_drewN | apply keep_drew | apply keep_alloc | refine keep_far ?_ GW215.out _ | refine keep_far ?_ GW216.out _ | refine keep_far ?_ GW232.out _) | exact HK.out)⟩, ⟨by repeat (first | (with_reducible first | exact HB.out | apply bal | apply pdn | apply bd1 | refine bst ?_ (IsS139.ge HI0.out) | refine bst ?_ GE215.out | refine bst ?_ GE216.out | refine bst ?_ GE232.out) | exact HB.out)⟩⟩
          ·rw [if_neg c55] at H
           have c55b0 : (x5_19 == 2) = false := beq_eq_false_iff_ne.mpr c55
           have c55b1 : (x5_19 != 2) = true := bne_iff_ne.mpr c55
           (first | rw [c55b0] | (simp only [i64_w, i32_w]; rw [c55b0]) | skip)
           by_cases c56 : x5_19 = 3
           ·rw [if_pos c56] at H
            have c56b0 : (x5_19 == 3) = true := beq_iff_eq.mpr c56
            have c56b1 : (x5_19 != 3) = false := bne_eq_false_iff_eq.mpr c56
            clear c56
            have H' := am H
            clear H
            go_wp2
            go_meet
            case rel => exact ⟨_, (true), (by first | rfl | (simp; done) | (simp [*]; done)), H', ⟨by have := HJ3.out; have := HJ19.out; have := HJ26.out; have := HJ33.out; first | omega | exact Nat.le_refl _⟩, ⟨by (with_reducible repeat (first | apply kdn | apply kdr | apply kal)); exact BK215.out⟩, ⟨by (with_reducible repeat (first | apply kdn | apply kdr | apply kal)); exact BK216.out⟩, ⟨by (with_reducible repeat (first | apply kdn | apply kdr | apply kal)); exact BK232.out⟩, ⟨by repeat (first | (with_reducible first | exact HI0.out | apply IsS139.alloc | apply IsS139.drewN | apply IsS139.drew | apply IsS139.set_1 | apply IsS139.set_2 | refine IsS139.far ?_ NB0_215.out _ | refine IsS139.far ?_ NB0_216.out _ | refine IsS139.far ?_ NB0_232.out _) | exact HI0.out)⟩, ⟨by repeat (first | (with_reducible first | exact HK.out | apply KeepBut.set_ | apply keep_drewN | apply keep_drew | apply keep_alloc | refine keep_far ?_ GW215.out _ | refine keep_far ?_ GW216.out _ | refine keep_far ?_ GW232.out _) | exact HK.out)⟩, ⟨by repeat (first | (with_reducible first | exact HB.out | apply bal | apply pdn | apply bd1 | refine bst ?_ (IsS139.ge HI0.out) | refine bst ?_ GE215.out | refine bst ?_ GE216.out | refine bst ?_ GE232.out) | exact HB.out)⟩⟩
           ·rw [if_neg c56] at H
            have c56b0 : (x5_19 == 3) = false := beq_eq_false_iff_ne.mpr c56
            have c56b1 : (x5_19 != 3) = true := bne_iff_ne.mpr c56
            have H' := am H
            clear H
            go_wp2
            go_meet
            case rel => exact ⟨_, ((x5_19 == 4)), (by first | rfl | (simp; done) | (simp [*]; done)), H', ⟨by have := HJ3.out; have := HJ19.out; have := HJ26.out; have := HJ33.out; first | omega | exact Nat.le_refl _⟩, ⟨by (with_reducible repeat (first | apply kdn | apply kdr | apply kal)); exact BK215.out⟩, ⟨by (with_reducible repeat (first | apply kdn | apply kdr | apply kal)); exact BK216.out⟩, ⟨by (with_reducible repeat (first | apply kdn | apply kdr | apply kal)); exact BK232.out⟩, ⟨by repeat (first | (with_reducible first | exact HI0.out | apply IsS139.alloc | apply IsS139.drewN | apply IsS139.drew | apply IsS139.set_1 | apply IsS139.set_2 | refine IsS139.far ?_ NB0_215.out _ | refine IsS139.far ?_ NB0_216.out _ | refine IsS139.far ?_ NB0_232.out _) | exact HI0.out)⟩, ⟨by repeat (first | (with_reducible first | exact HK.out | apply KeepBut.set_ | apply keep_drewN | apply keep_drew | apply keep_alloc | refine keep_far ?_ GW215.out _ | refine keep_far ?_ GW216.out _ | refine keep_far ?_ GW232.out _) | exact HK.out)⟩, ⟨by repeat (first | (with_reducible first | exact HB.out | apply bal | apply pdn | apply bd1 | refine bst ?_ (IsS139.ge HI0.out) | refine bst ?_ GE215.out | refine bst ?_ GE216.out | refine bst ?_ GE232.out) | exact HB.out)⟩⟩
         case rest =>
          clear HC54
          obtain ⟨kq, x47_53, rfl, HA, HJ53, BK215, BK216, BK232, HI0, HK, HB⟩ := hcut
          cases kq with
          | zero => exact absurd HA.out (by simp [spec_l16Op.j4])
          | succ kj53 =>
           have H := HA.out
           clear HA
           simp only [spec_l16Op.j4] at H
           have HC57 := am H
           clear H
           go_upto_if 47 with (fail)
           go_cut [] (fun wc => ∃ (kq : Nat) (x1001_56 : Int) (x1002_56 : Int) (x233002_56 : ByteArray), Aside0 (spec_l16Op.j5 kq s0_0 x1001_56 x1002_56 x5_19 x233001_33 x233002_56 = some (r1, r2, r3, r4, r5)) ∧ Aside0 (kq ≤ kj53) ∧ Aside0 (wc.heap[gb215]? = some (.cells #[.int .i64 a1_0, .int .i64 a1_1] 84 (0, 0))) ∧ Aside0 (wc.heap[gb216]? = some (.cells #[.int .i64 0, .int .i64 0, .string (⟨#[]⟩ : ByteArray)] 60 (0, 0))) ∧ Aside0 (wc.heap[gb232]? = some (.cells #[.int .i64 x5_19, .int .i64 x233001_33, .string x233002_56] 60 (0, 0))) ∧ Aside0 (IsS139 w0 wc g s0_0 x1001_56 x1002_56) ∧ Aside0 (KeepBut w wc g none) ∧ Aside0 (Below w0.heap.size w0 wc))
           case first =>
            have H := HC57.out
            clear HC57
            by_cases c58 : x47_53 = true
            ·subst c58
             have H1 : ((spec_l16Bytes.f kj53 s0_0 x1001_33 x1002_33).bind fun bt242 => (spec_l16Op.j5 kj53 s0_0 bt242.2.1 bt242.2.2 x5_19 x233001_33 bt242.1)) = some (r1, r2, r3, r4, r5) := by rw [if_pos rfl] at H; exact H
             clear H
             have H := H1
             clear H1
             replace H := Option.bind_eq_some_iff.mp H
             obtain ⟨⟨t242, t243, t244⟩, A590, H⟩ := H
             replace H : (spec_l16Op.j5 kj53 s0_0 t243 t244 x5_19 x233001_33 t242) = some (r1, r2, r3, r4, r5) := H
             have A59 := am A590
             clear A590
             have H' := am H
             clear H
             go_wp2_with (first | ((with_reducible refine gate_callee (f := 100) rfl ?_); refine goesL_ (some 49) rfl rfl Try.func100 (by kernel_rfl) rfl #[.pointer (some ⟨g, 0, none⟩)] rfl (by (try simp only [mta, mco, mni]); first | done | rfl | (simp only [lnd, lnt]; rfl)) ?_; (with_reducible refine (spec_l16Bytes.calls kj53 g s0_0 x1001_33 x1002_33 t242 t243 t244 w0 _ ?side1 ?side2 A59.out).mono ?_); (case side1 => repeat (first | (with_reducible first | exact HI0.out | apply IsS139.alloc | apply IsS139.drewN | apply IsS139.drew | apply IsS139.set_1 | apply IsS139.set_2 | refine IsS139.far ?_ NB0_215.out _ | refine IsS139.far ?_ NB0_216.out _ | refine IsS139.far ?_ NB0_232.out _) | exact HI0.out)); (case side2 => repeat (first | (with_reducible first | exact HB.out | apply bal | apply pdn | apply bd1 | refine bst ?_ (IsS139.ge HI0.out) | refine bst ?_ GE215.out | refine bst ?_ GE216.out | refine bst ?_ GE232.out) | exact HB.out)); rintro e w60 ⟨rfl, hi, hb, hk⟩; refine ⟨_, rfl, ?_⟩; have n0_ := am (KeepBut.blk hk (g' := gb215) (o := .cells #[.int .i64 a1_0, .int .i64 a1_1] 84 (0, 0)) (by (with_reducible repeat (first | apply kdn | apply kdr | apply kal)); exact BK215.out) NB215_0.out (by simp)); have n1_ := am (KeepBut.blk hk (g' := gb216) (o := .cells #[.int .i64 0, .int .i64 0, .string (⟨#[]⟩ : ByteArray)] 60 (0, 0)) (by (with_reducible repeat (first | apply kdn | apply kdr | apply kal)); exact BK216.out) NB216_0.out (by simp)); have n2_ := am (KeepBut.blk hk (g' := gb232) (o := .cells #[.int .i64 x5_19, .int .i64 x233001_33, .string (⟨#[]⟩ : ByteArray)] 60 (0, 0)) (by (with_reducible repeat (first | apply kdn | apply kdr | apply kal)); exact BK232.out) NB232_0.out (by simp)); have n3_ := am (KeepBut.trans (by repeat (first | (with_reducible first | exact HK.out | apply KeepBut.set_ | apply keep_drewN | apply keep_drew | apply keep_alloc | refine keep_far ?_ GW215.out _ | refine keep_far ?_ GW216.out _ | refine keep_far ?_ GW232.out _) | exact HK.out)) hk (.inl rfl)); have n4_ := am (hb); have n5_ := am (hi); clear BK215; clear BK216; clear BK232; clear HK; clear HB; clear HI0; have BK215 := n0_; have BK216 := n1_; have BK232 := n2_; have HK := n3_; have HB := n4_; have HI0 := n5_; clear n0_ n1_ n2_ n3_ n4_ n5_; (try clear hb); (try clear hb2); (try clear hk); (try clear hi); have hnb61 := NB232_215.out; have hnc61 := NB215_232.out; have hnb62 := NB232_216.out; have hnc62 := NB216_232.out; have hnb63 := NB232_0.out; have hnc63 := NB0_232.out; have hcz64_0 : w60.cell? ⟨gb232, 0, none⟩ = some (.int .i64 x5_19) := (kce BK232.out 0).trans rfl; have hcz64_1 : w60.cell? ⟨gb232, 1, none⟩ = some (.int .i64 x233001_33) := (kce BK232.out 1).trans rfl; have hcz64_2 : w60.cell? ⟨gb232, 2, none⟩ = some (.string (⟨#[]⟩ : ByteArray)) := (kce BK232.out 2).trans rfl; have hfz64_0 := kfr BK232.out 0; have hfz64_1 := kfr BK232.out 1; have hfz64_2 := kfr BK232.out 2))
             go_meet
             case rel => exact ⟨_, (t243), (t244), (t242), H', ⟨by have := HJ3.out; have := HJ19.out; have := HJ26.out; have := HJ33.out; have := HJ53.out; first | omega | exact Nat.le_refl _⟩, ⟨by (with_reducible repeat (first | apply kdn | apply kdr | apply kal)); refine blk_far ?_ NB215_232.out _; (with_reducible repeat (first | apply kdn | apply kdr | apply kal)); exact BK215.out⟩, ⟨by (with_reducible repeat (first | apply kdn | apply kdr | apply kal)); refine blk_far ?_ NB216_232.out _; (with_reducible repeat (first | apply kdn | apply kdr | apply kal)); exact BK216.out⟩, ⟨by (with_reducible repeat (first | apply kdn | apply kdr | apply kal)); refine blk_put (cs := #[.int .i64 x5_19, .int .i64 x233001_33, .string (⟨#[]⟩ : ByteArray)]) ?_ 2 _ rfl; (with_reducible repeat (first | apply kdn | apply kdr | apply kal)); exact BK232.out⟩, ⟨by repeat (first | (with_reducible first | exact HI0.out | apply IsS139.alloc | apply IsS139.drewN | apply IsS139.drew | apply IsS139.set_1 | apply IsS139.set_2 | refine IsS139.far ?_ NB0_215.out _ | refine IsS139.far ?_ NB0_216.out _ | refine IsS139.far ?_ NB0_232.out _) | exact HI0.out)⟩, ⟨by repeat (first | (with_reducible first | exact HK.out | apply KeepBut.set_ | apply keep_drewN | apply keep_drew | apply keep_alloc | refine keep_far ?_ GW215.out _ | refine keep_far ?_ GW216.out _ | refine keep_far ?_ GW232.out _) | exact HK.out)⟩, ⟨by repeat (first | (with_reducible first | exact HB.out | apply bal | apply pdn | apply bd1 | refine bst ?_ (IsS139.ge HI0.out) | refine bst ?_ GE215.out | refine bst ?_ GE216.out | refine bst ?_ GE232.out) | exact HB.out)⟩⟩
            ·replace c58 := Bool.eq_false_iff.mpr c58
             subst c58
             have H1 : (spec_l16Op.j5 kj53 s0_0 x1001_33 x1002_33 x5_19 x233001_33 (⟨#[]⟩ : ByteArray)) = some (r1, r2, r3, r4, r5) := by rw [if_neg (show ¬ (false = true) by decide)] at H; exact H
             clear H
             have H := H1
             clear H1
             have H' := am H
             clear H
             go_wp2
             go_meet
             case rel => exact ⟨_, (x1001_33), (x1002_33), ((⟨#[]⟩ : ByteArray)), H', ⟨by have := HJ3.out; have := HJ19.out; have := HJ26.out; have := HJ33.out; have := HJ53.out; first | omega | exact Nat.le_refl _⟩, ⟨by (with_reducible repeat (first | apply kdn | apply kdr | apply kal)); exact BK215.out⟩, ⟨by (with_reducible repeat (first | apply kdn | apply kdr | apply kal)); exact BK216.out⟩, ⟨by (with_reducible repeat (first | apply kdn | apply kdr | apply kal)); exact BK232.out⟩, ⟨by repeat (first | (with_reducible first | exact HI0.out | apply IsS139.alloc | apply IsS139.drewN | apply IsS139.drew | apply IsS139.set_1 | apply IsS139.set_2 | refine IsS139.far ?_ NB0_215.out _ | refine IsS139.far ?_ NB0_216.out _ | refine IsS139.far ?_ NB0_232.out _) | exact HI0.out)⟩, ⟨by repeat (first | (with_reducible first | exact HK.out | apply KeepBut.set_ | apply keep_drewN | apply keep_drew | apply keep_alloc | refine keep_far ?_ GW215.out _ | refine keep_far ?_ GW216.out _ | refine keep_far ?_ GW232.out _) | exact HK.out)⟩, ⟨by repeat (first | (with_reducible first | exact HB.out | apply bal | apply pdn | apply bd1 | refine bst ?_ (IsS139.ge HI0.out) | refine bst ?_ GE215.out | refine bst ?_ GE216.out | refine bst ?_ GE232.out) | exact HB.out)⟩⟩
           case rest =>
            clear HC57
            obtain ⟨kq, x1001_56, x1002_56, x233002_56, HA, HJ56, BK215, BK216, BK232, HI0, HK, HB⟩ := hcut
            cases kq with
            | zero => exact absurd HA.out (by simp [spec_l16Op.j5])
            | succ kj56 =>
             have H := HA.out
             clear HA
             simp only [spec_l16Op.j5] at H
             replace H := Option.bind_eq_some_iff.mp H
             obtain ⟨⟨t245, t246, t247⟩, A650, H⟩ := H
             replace H : (if t245 = 0 then ((spec_l00Src_pick.f s0_0 t246 t247 3).bind fun bt248 => (some (x5_19, wrap64 ((wrap64 (x233001_33 + 1)) - bt248.1), x233002_56, bt248.2.1, bt248.2.2))) else (if t245 = 1 then ((spec_l00Src_pick.f s0_0 t246 t247 9).bind fun bt251 => (some (wrap64 (bt251.1 - 1), x233001_33, x233002_56, bt251.2.1, bt251.2.2))) else (if t245 = 2 then (some (x5_19, x233001_33, (⟨#[120]⟩ : ByteArray), t246, t247)) else (some (x5_19, x233001_33, x233002_56, t246, t247))))) = some (r1, r2, r3, r4, r5) := H
             have A65 := am A650
             clear A650
             by_cases c66 : t245 = 0
             ·rw [if_pos c66] at H
              have c66b0 : (t245 == 0) = true := beq_iff_eq.mpr c66
              have c66b1 : (t245 != 0) = false := bne_eq_false_iff_eq.mpr c66
              clear c66
              replace H := Option.bind_eq_some_iff.mp H
              obtain ⟨⟨t248, t249, t250⟩, A670, H⟩ := H
              replace H : (some (x5_19, wrap64 ((wrap64 (x233001_33 + 1)) - t248), x233002_56, t249, t250)) = some (r1, r2, r3, r4, r5) := H
              have A67 := am A670
              clear A670
              simp only [Option.some.injEq, Prod.mk.injEq] at H
              obtain ⟨rfl, rfl, rfl, rfl, rfl⟩ := H
              try go_wp2_with (first | ((with_reducible refine gate_callee (f := 82) rfl ?_); refine goesL_ (some 52) rfl rfl Try.func82 (by kernel_rfl) rfl #[.pointer (some ⟨g, 0, none⟩), .int .i64 30] rfl (by (try simp only [mta, mco, mni]); first | done | rfl | (simp only [lnd, lnt]; rfl)) ?_; (with_reducible refine (spec_l00Src_pick.calls g s0_0 x1001_56 x1002_56 30 t245 t246 t247 w0 _ ?side1 ?side2 A65.out).mono ?_); (case side1 => repeat (first | (with_reducible first | exact HI0.out | apply IsS139.alloc | apply IsS139.drewN | apply IsS139.drew | apply IsS139.set_1 | apply IsS139.set_2 | refine IsS139.far ?_ NB0_215.out _ | refine IsS139.far ?_ NB0_216.out _ | refine IsS139.far ?_ NB0_232.out _) | exact HI0.out)); (case side2 => repeat (first | (with_reducible first | exact HB.out | apply bal | apply pdn | apply bd1 | refine bst ?_ (IsS139.ge HI0.out) | refine bst ?_ GE215.out | refine bst ?_ GE216.out | refine bst ?_ GE232.out) | exact HB.out)); rintro e w68 ⟨rfl, hi, hb, hk⟩; refine ⟨_, rfl, ?_⟩; have n0_ := am (KeepBut.blk hk (g' := gb215) (o := .cells #[.int .i64 a1_0, .int .i64 a1_1] 84 (0, 0)) (by (with_reducible repeat (first | apply kdn | apply kdr | apply kal)); exact BK215.out) NB215_0.out (by simp)); have n1_ := am (KeepBut.blk hk (g' := gb216) (o := .cells #[.int .i64 0, .int .i64 0, .string (⟨#[]⟩ : ByteArray)] 60 (0, 0)) (by (with_reducible repeat (first | apply kdn | apply kdr | apply kal)); exact BK216.out) NB216_0.out (by simp)); have n2_ := am (KeepBut.blk hk (g' := gb232) (o := .cells #[.int .i64 x5_19, .int .i64 x233001_33, .string x233002_56] 60 (0, 0)) (by (with_reducible repeat (first | apply kdn | apply kdr | apply kal)); exact BK232.out) NB232_0.out (by simp)); have n3_ := am (KeepBut.trans (by repeat (first | (with_reducible first | exact HK.out | apply KeepBut.set_ | apply keep_drewN | apply keep_drew | apply keep_alloc | refine keep_far ?_ GW215.out _ | refine keep_far ?_ GW216.out _ | refine keep_far ?_ GW232.out _) | exact HK.out)) hk (.inl rfl)); have n4_ := am (hb); have n5_ := am (hi); clear BK215; clear BK216; clear BK232; clear HK; clear HB; clear HI0; have BK215 := n0_; have BK216 := n1_; have BK232 := n2_; have HK := n3_; have HB := n4_; have HI0 := n5_; clear n0_ n1_ n2_ n3_ n4_ n5_; (try clear hb); (try clear hb2); (try clear hk); (try clear hi)))
              have n0_ := am (kdr BK215.out)
              have n1_ := am (kdr BK216.out)
              have n2_ := am (kdr BK232.out)
              have n3_ := am (IsS139.drew HI0.out)
              have n4_ := am (keep_drew HK.out)
              have n5_ := am (bd1 HB.out)
              clear BK215
              clear BK216
              clear BK232
              clear HI0
              clear HK
              clear HB
              have BK215 := n0_
              have BK216 := n1_
              have BK232 := n2_
              have HI0 := n3_
              have HK := n4_
              have HB := n5_
              clear n0_ n1_ n2_ n3_ n4_ n5_
              refine start_ (n := 8) (S := fun w' => w'.cell? ⟨gb232, 0, none⟩ = some (.int .i64 x5_19) ∧ w'.cell? ⟨gb232, 1, none⟩ = some (.int .i64 x233001_33) ∧ w'.cell? ⟨gb232, 2, none⟩ = some (.string x233002_56)) (ds := [7]) #[false, false, false, false, false, false, false, false] (by kernel_rfl) rfl rfl ⟨(kce BK232.out 0).trans rfl, (kce BK232.out 1).trans rfl, (kce BK232.out 2).trans rfl⟩ (fun hHeld => ?_); refine with_tabW spec_l16Op.tab13 spec_l16Op.bits13 (fun HT_ HW_ => ?_)
              generalize w68.drew = w69 at BK215 BK216 BK232 HI0 HK HB hHeld ⊢
              refine pure_ (i := 0) (N := some 55) (v := ?_) (a' := ?_) #[true, false, false, false, false, false, false, false] rfl rfl (any_of HT_.out (by kernel_rfl)) (fun _ _ _ h => h) (Or.inl ⟨by rfl, ?_⟩) ?_ ?_
              rotate_left
              ·intro w'
               go_simp
               with_reducible rfl
              rotate_left
              ·simp only [Act.put, sit, scz, scs, i64_w, i32_w]
               rfl
              refine pure_ (i := 3) (N := some 58) (v := ?_) (a' := ?_) #[true, false, false, true, false, false, false, false] rfl rfl (any_of HT_.out (by kernel_rfl)) (fun _ _ _ h => h) (Or.inl ⟨by rfl, ?_⟩) ?_ ?_
              rotate_left
              ·intro w'
               go_simp
               with_reducible rfl
              rotate_left
              ·simp only [Act.put, sit, scz, scs, i64_w, i32_w]
               rfl
              refine take_ (i := 1) (N := some 56) (v := ?_) (a' := ?_) #[true, true, false, true, false, false, false, false] rfl rfl (take_ofW HT_.out HW_.out (by kernel_rfl)) (fun _ _ _ h => h) (Or.inl ⟨by rfl, ?_⟩) hHeld ?_ ?_
              rotate_left
              ·rintro w' ⟨s0, s1, s2⟩
               go_simp
               with_reducible rfl
              rotate_left
              ·simp only [Act.put, sit, scz, scs, i64_w, i32_w]
               rfl
              refine pure_ (i := 2) (N := some 57) (v := ?_) (a' := ?_) #[true, true, true, true, false, false, false, false] rfl rfl (any_of HT_.out (by kernel_rfl)) (fun _ _ _ h => h) (Or.inl ⟨by rfl, ?_⟩) ?_ ?_
              rotate_left
              ·intro w'
               go_simp
               with_reducible rfl
              rotate_left
              ·simp only [Act.put, sit, scz, scs, i64_w, i32_w]
               rfl
              refine one_ (i := 4) (N := some 59) #[true, true, true, true, true, false, false, false] rfl rfl (one_of HT_.out (by kernel_rfl)) (by decide) (fun K hK => ?_)
              refine goes_ Try.func82 (by kernel_rfl) rfl #[.pointer (some ⟨g, 0, none⟩), .int .i64 3] (by rfl) rfl rfl (by (try simp only [mta, mco, mni]); first | done | rfl | (simp only [lnd, lnt]; rfl)) ?_
              with_reducible refine (spec_l00Src_pick.calls g s0_0 t246 t247 3 t248 t249 t250 w0 _ ?side1 ?side2 A67.out).mono ?_
              (case side1 => repeat (first | (with_reducible first | exact HI0.out | apply IsS139.alloc | apply IsS139.drewN | apply IsS139.drew | apply IsS139.set_1 | apply IsS139.set_2 | refine IsS139.far ?_ NB0_215.out _ | refine IsS139.far ?_ NB0_216.out _ | refine IsS139.far ?_ NB0_232.out _) | exact HI0.out))
              (case side2 => repeat (first | (with_reducible first | exact HB.out | apply bal | apply pdn | apply bd1 | refine bst ?_ (IsS139.ge HI0.out) | refine bst ?_ GE215.out | refine bst ?_ GE216.out | refine bst ?_ GE232.out) | exact HB.out))
              rintro e w70 ⟨rfl, hi, hb, hk⟩
              refine ⟨_, rfl, ?_⟩
              have n0_ := am (KeepBut.blk hk (g' := gb215) (o := .cells #[.int .i64 a1_0, .int .i64 a1_1] 84 (0, 0)) (by (with_reducible repeat (first | apply kdn | apply kdr | apply kal)); exact BK215.out) NB215_0.out (by simp))
              have n1_ := am (KeepBut.blk hk (g' := gb216) (o := .cells #[.int .i64 0, .int .i64 0, .string (⟨#[]⟩ : ByteArray)] 60 (0, 0)) (by (with_reducible repeat (first | apply kdn | apply kdr | apply kal)); exact BK216.out) NB216_0.out (by simp))
              have n2_ := am (KeepBut.blk hk (g' := gb232) (o := .cells #[.int .i64 x5_19, .int .i64 x233001_33, .string x233002_56] 60 (0, 0)) (by (with_reducible repeat (first | apply kdn | apply kdr | apply kal)); exact BK232.out) NB232_0.out (by simp))
              have n3_ := am (KeepBut.trans (by repeat (first | (with_reducible first | exact HK.out | apply KeepBut.set_ | apply keep_drewN | apply keep_drew | apply keep_alloc | refine keep_far ?_ GW215.out _ | refine keep_far ?_ GW216.out _ | refine keep_far ?_ GW232.out _) | exact HK.out)) hk (.inl rfl))
              have n4_ := am (hb)
              have n5_ := am (hi)
              clear BK215
              clear BK216
              clear BK232
              clear HK
              clear HB
              clear HI0
              have BK215 := n0_
              have BK216 := n1_
              have BK232 := n2_
              have HK := n3_
              have HB := n4_
              have HI0 := n5_
              clear n0_ n1_ n2_ n3_ n4_ n5_
              refine hK.out _ _ ⟨(kce BK232.out 0).trans rfl, (kce BK232.out 1).trans rfl, (kce BK232.out 2).trans rfl⟩ (fun hHeld => ?_)
              clear hK K
              refine norm_ (a' := ?_) ?_ ?_
              rotate_left
              ·show Act.put _ (some 59) _ = _
               simp only [Act.put, sit, scz, scs, i64_w, i32_w]
               rfl
              refine pure_ (i := 5) (N := some 60) (v := ?_) (a' := ?_) #[true, true, true, true, true, true, false, false] rfl rfl (any_of HT_.out (by kernel_rfl)) (fun _ _ _ h => h) (Or.inl ⟨by rfl, ?_⟩) ?_ ?_
              rotate_left
              ·intro w'
               go_simp
               with_reducible rfl
              rotate_left
              ·simp only [Act.put, sit, scz, scs, i64_w, i32_w]
               rfl
              refine pure_ (i := 6) (N := some 61) (v := ?_) (a' := ?_) #[true, true, true, true, true, true, true, false] rfl rfl (any_of HT_.out (by kernel_rfl)) (fun _ _ _ h => h) (Or.inl ⟨by rfl, ?_⟩) ?_ ?_
              rotate_left
              ·intro w'
               go_simp
               with_reducible rfl
              rotate_left
              ·simp only [Act.put, sit, scz, scs, i64_w, i32_w]
               rfl
              refine last_ (i := 7) (N := none) #[true, true, true, true, true, true, true, true] rfl rfl (one_of HT_.out (by kernel_rfl)) (by decide) (fun K hK => ?_)
              have hs71 : w70.cell? ⟨gb232, 1, none⟩ = some (.int .i64 x233001_33) := (kce BK232.out 1).trans rfl
              have hfs71 := kfr BK232.out 1
              have hns71_0 := NB215_232.out
              have hns71_1 := NB216_232.out
              have hms71_0 := NB232_215.out
              have hms71_1 := NB232_216.out
              refine skip_ (w1 := ?_) (by rfl) rfl ?_ ?_
              rotate_left
              ·go_simp
               rfl
              refine hK.out _ _ ?_
              clear hK K
              refine done_ (done_of HT_.out (by kernel_rfl)) ?_
              have hnb72 := NB232_215.out
              have hnc72 := NB215_232.out
              have hnb73 := NB232_216.out
              have hnc73 := NB216_232.out
              have hnb74 := NB232_0.out
              have hnc74 := NB0_232.out
              have hcz75_0 : w70.cell? ⟨gb232, 0, none⟩ = some (.int .i64 x5_19) := (kce BK232.out 0).trans rfl
              have hcz75_1 : w70.cell? ⟨gb232, 1, none⟩ = some (.int .i64 x233001_33) := (kce BK232.out 1).trans rfl
              have hcz75_2 : w70.cell? ⟨gb232, 2, none⟩ = some (.string x233002_56) := (kce BK232.out 2).trans rfl
              have hfz75_0 := kfr BK232.out 0
              have hfz75_1 := kfr BK232.out 1
              have hfz75_2 := kfr BK232.out 2
              have hnb76 := NB216_215.out
              have hnc76 := NB215_216.out
              have hnb77 := NB216_0.out
              have hnc77 := NB0_216.out
              have hcz78_0 : w70.cell? ⟨gb216, 0, none⟩ = some (.int .i64 0) := (kce BK216.out 0).trans rfl
              have hcz78_1 : w70.cell? ⟨gb216, 1, none⟩ = some (.int .i64 0) := (kce BK216.out 1).trans rfl
              have hcz78_2 : w70.cell? ⟨gb216, 2, none⟩ = some (.string (⟨#[]⟩ : ByteArray)) := (kce BK216.out 2).trans rfl
              have hfz78_0 := kfr BK216.out 0
              have hfz78_1 := kfr BK216.out 1
              have hfz78_2 := kfr BK216.out 2
              try go_wp2
              refine bodyPost_ret (results_cell_row rfl _ _ gb216 60 #[.int .i64 x5_19, .int .i64 (wrap64 ((wrap64 (x233001_33 + 1)) - t248)), .string x233002_56] (0, 0) _ rfl (by (with_reducible repeat (first | apply kdn | apply kdr | apply kal)); refine blk_put (cs := #[.int .i64 x5_19, .int .i64 (wrap64 ((wrap64 (x233001_33 + 1)) - t248)), .string (⟨#[]⟩ : ByteArray)]) ?_ 2 _ rfl; (with_reducible repeat (first | apply kdn | apply kdr | apply kal)); refine blk_put (cs := #[.int .i64 x5_19, .int .i64 0, .string (⟨#[]⟩ : ByteArray)]) ?_ 1 _ rfl; (with_reducible repeat (first | apply kdn | apply kdr | apply kal)); refine blk_put (cs := #[.int .i64 0, .int .i64 0, .string (⟨#[]⟩ : ByteArray)]) ?_ 0 _ rfl; (with_reducible repeat (first | apply kdn | apply kdr | apply kal)); refine blk_far ?_ NB216_232.out _; (with_reducible repeat (first | apply kdn | apply kdr | apply kal)); exact BK216.out) Try.underlying60 rfl (by kernel_rfl)) rfl ?_
              exact ⟨by first | rfl | (simp [errW_none, errW_some] <;> rfl) | (simp [*, errW_none, errW_some] <;> rfl), by repeat (first | (with_reducible first | exact HI0.out | apply IsS139.alloc | apply IsS139.drewN | apply IsS139.drew | apply IsS139.set_1 | apply IsS139.set_2 | refine IsS139.far ?_ NB0_215.out _ | refine IsS139.far ?_ NB0_216.out _ | refine IsS139.far ?_ NB0_232.out _) | exact HI0.out), by repeat (first | (with_reducible first | exact HB.out | apply bal | apply pdn | apply bd1 | refine bst ?_ (IsS139.ge HI0.out) | refine bst ?_ GE215.out | refine bst ?_ GE216.out | refine bst ?_ GE232.out) | exact HB.out), by repeat (first | (with_reducible first | exact HK.out | apply KeepBut.set_ | apply keep_drewN | apply keep_drew | apply keep_alloc | refine keep_far ?_ GW215.out _ | refine keep_far ?_ GW216.out _ | refine keep_far ?_ GW232.out _) | exact HK.out)⟩
             ·rw [if_neg c66] at H
              have c66b0 : (t245 == 0) = false := beq_eq_false_iff_ne.mpr c66
              have c66b1 : (t245 != 0) = true := bne_iff_ne.mpr c66
              by_cases c79 : t245 = 1
              ·rw [if_pos c79] at H
               have c79b0 : (t245 == 1) = true := beq_iff_eq.mpr c79
               have c79b1 : (t245 != 1) = false := bne_eq_false_iff_eq.mpr c79
               clear c79
               replace H := Option.bind_eq_some_iff.mp H
               obtain ⟨⟨t251, t252, t253⟩, A800, H⟩ := H
               replace H : (some (wrap64 (t251 - 1), x233001_33, x233002_56, t252, t253)) = some (r1, r2, r3, r4, r5) := H
               have A80 := am A800
               clear A800
               simp only [Option.some.injEq, Prod.mk.injEq] at H
               obtain ⟨rfl, rfl, rfl, rfl, rfl⟩ := H
               go_wp2_with (first | ((with_reducible refine gate_callee (f := 82) rfl ?_); refine goesL_ (some 52) rfl rfl Try.func82 (by kernel_rfl) rfl #[.pointer (some ⟨g, 0, none⟩), .int .i64 30] rfl (by (try simp only [mta, mco, mni]); first | done | rfl | (simp only [lnd, lnt]; rfl)) ?_; (with_reducible refine (spec_l00Src_pick.calls g s0_0 x1001_56 x1002_56 30 t245 t246 t247 w0 _ ?side1 ?side2 A65.out).mono ?_); (case side1 => repeat (first | (with_reducible first | exact HI0.out | apply IsS139.alloc | apply IsS139.drewN | apply IsS139.drew | apply IsS139.set_1 | apply IsS139.set_2 | refine IsS139.far ?_ NB0_215.out _ | refine IsS139.far ?_ NB0_216.out _ | refine IsS139.far ?_ NB0_232.out _) | exact HI0.out)); (case side2 => repeat (first | (with_reducible first | exact HB.out | apply bal | apply pdn | apply bd1 | refine bst ?_ (IsS139.ge HI0.out) | refine bst ?_ GE215.out | refine bst ?_ GE216.out | refine bst ?_ GE232.out) | exact HB.out)); rintro e w81 ⟨rfl, hi, hb, hk⟩; refine ⟨_, rfl, ?_⟩; have n0_ := am (KeepBut.blk hk (g' := gb215) (o := .cells #[.int .i64 a1_0, .int .i64 a1_1] 84 (0, 0)) (by (with_reducible repeat (first | apply kdn | apply kdr | apply kal)); exact BK215.out) NB215_0.out (by simp)); have n1_ := am (KeepBut.blk hk (g' := gb216) (o := .cells #[.int .i64 0, .int .i64 0, .string (⟨#[]⟩ : ByteArray)] 60 (0, 0)) (by (with_reducible repeat (first | apply kdn | apply kdr | apply kal)); exact BK216.out) NB216_0.out (by simp)); have n2_ := am (KeepBut.blk hk (g' := gb232) (o := .cells #[.int .i64 x5_19, .int .i64 x233001_33, .string x233002_56] 60 (0, 0)) (by (with_reducible repeat (first | apply kdn | apply kdr | apply kal)); exact BK232.out) NB232_0.out (by simp)); have n3_ := am (KeepBut.trans (by repeat (first | (with_reducible first | exact HK.out | apply KeepBut.set_ | apply keep_drewN | apply keep_drew | apply keep_alloc | refine keep_far ?_ GW215.out _ | refine keep_far ?_ GW216.out _ | refine keep_far ?_ GW232.out _) | exact HK.out)) hk (.inl rfl)); have n4_ := am (hb); have n5_ := am (hi); clear BK215; clear BK216; clear BK232; clear HK; clear HB; clear HI0; have BK215 := n0_; have BK216 := n1_; have BK232 := n2_; have HK := n3_; have HB := n4_; have HI0 := n5_; clear n0_ n1_ n2_ n3_ n4_ n5_; (try clear hb); (try clear hb2); (try clear hk); (try clear hi)) | ((with_reducible refine gate_callee (f := 82) rfl ?_); refine goesL_ (some 65) rfl rfl Try.func82 (by kernel_rfl) rfl #[.pointer (some ⟨g, 0, none⟩), .int .i64 9] rfl (by (try simp only [mta, mco, mni]); first | done | rfl | (simp only [lnd, lnt]; rfl)) ?_; (with_reducible refine (spec_l00Src_pick.calls g s0_0 t246 t247 9 t251 t252 t253 w0 _ ?side1 ?side2 A80.out).mono ?_); (case side1 => repeat (first | (with_reducible first | exact HI0.out | apply IsS139.alloc | apply IsS139.drewN | apply IsS139.drew | apply IsS139.set_1 | apply IsS139.set_2 | refine IsS139.far ?_ NB0_215.out _ | refine IsS139.far ?_ NB0_216.out _ | refine IsS139.far ?_ NB0_232.out _) | exact HI0.out)); (case side2 => repeat (first | (with_reducible first | exact HB.out | apply bal | apply pdn | apply bd1 | refine bst ?_ (IsS139.ge HI0.out) | refine bst ?_ GE215.out | refine bst ?_ GE216.out | refine bst ?_ GE232.out) | exact HB.out)); rintro e w82 ⟨rfl, hi, hb, hk⟩; refine ⟨_, rfl, ?_⟩; have n0_ := am (KeepBut.blk hk (g' := gb215) (o := .cells #[.int .i64 a1_0, .int .i64 a1_1] 84 (0, 0)) (by (with_reducible repeat (first | apply kdn | apply kdr | apply kal)); exact BK215.out) NB215_0.out (by simp)); have n1_ := am (KeepBut.blk hk (g' := gb216) (o := .cells #[.int .i64 0, .int .i64 0, .string (⟨#[]⟩ : ByteArray)] 60 (0, 0)) (by (with_reducible repeat (first | apply kdn | apply kdr | apply kal)); exact BK216.out) NB216_0.out (by simp)); have n2_ := am (KeepBut.blk hk (g' := gb232) (o := .cells #[.int .i64 x5_19, .int .i64 x233001_33, .string x233002_56] 60 (0, 0)) (by (with_reducible repeat (first | apply kdn | apply kdr | apply kal)); exact BK232.out) NB232_0.out (by simp)); have n3_ := am (KeepBut.trans (by repeat (first | (with_reducible first | exact HK.out | apply KeepBut.set_ | apply keep_drewN | apply keep_drew | apply keep_alloc | refine keep_far ?_ GW215.out _ | refine keep_far ?_ GW216.out _ | refine keep_far ?_ GW232.out _) | exact HK.out)) hk (.inl rfl)); have n4_ := am (hb); have n5_ := am (hi); clear BK215; clear BK216; clear BK232; clear HK; clear HB; clear HI0; have BK215 := n0_; have BK216 := n1_; have BK232 := n2_; have HK := n3_; have HB := n4_; have HI0 := n5_; clear n0_ n1_ n2_ n3_ n4_ n5_; (try clear hb); (try clear hb2); (try clear hk); (try clear hi); have hnb83 := NB232_215.out; have hnc83 := NB215_232.out; have hnb84 := NB232_216.out; have hnc84 := NB216_232.out; have hnb85 := NB232_0.out; have hnc85 := NB0_232.out; have hcz86_0 : w82.cell? ⟨gb232, 0, none⟩ = some (.int .i64 x5_19) := (kce BK232.out 0).trans rfl; have hcz86_1 : w82.cell? ⟨gb232, 1, none⟩ = some (.int .i64 x233001_33) := (kce BK232.out 1).trans rfl; have hcz86_2 : w82.cell? ⟨gb232, 2, none⟩ = some (.string x233002_56) := (kce BK232.out 2).trans rfl; have hfz86_0 := kfr BK232.out 0; have hfz86_1 := kfr BK232.out 1; have hfz86_2 := kfr BK232.out 2; have hnb87 := NB216_215.out; have hnc87 := NB215_216.out; have hnb88 := NB216_0.out; have hnc88 := NB0_216.out; have hcz89_0 : w82.cell? ⟨gb216, 0, none⟩ = some (.int .i64 0) := (kce BK216.out 0).trans rfl; have hcz89_1 : w82.cell? ⟨gb216, 1, none⟩ = some (.int .i64 0) := (kce BK216.out 1).trans rfl; have hcz89_2 : w82.cell? ⟨gb216, 2, none⟩ = some (.string (⟨#[]⟩ : ByteArray)) := (kce BK216.out 2).trans rfl; have hfz89_0 := kfr BK216.out 0; have hfz89_1 := kfr BK216.out 1; have hfz89_2 := kfr BK216.out 2))
               refine bodyPost_ret (results_cell_row rfl _ _ gb216 60 #[.int .i64 (wrap64 (t251 - 1)), .int .i64 x233001_33, .string x233002_56] (0, 0) _ rfl (by (with_reducible repeat (first | apply kdn | apply kdr | apply kal)); refine blk_put (cs := #[.int .i64 (wrap64 (t251 - 1)), .int .i64 x233001_33, .string (⟨#[]⟩ : ByteArray)]) ?_ 2 _ rfl; (with_reducible repeat (first | apply kdn | apply kdr | apply kal)); refine blk_put (cs := #[.int .i64 (wrap64 (t251 - 1)), .int .i64 0, .string (⟨#[]⟩ : ByteArray)]) ?_ 1 _ rfl; (with_reducible repeat (first | apply kdn | apply kdr | apply kal)); refine blk_put (cs := #[.int .i64 0, .int .i64 0, .string (⟨#[]⟩ : ByteArray)]) ?_ 0 _ rfl; (with_reducible repeat (first | apply kdn | apply kdr | apply kal)); refine blk_far ?_ NB216_232.out _; (with_reducible repeat (first | apply kdn | apply kdr | apply kal)); exact BK216.out) Try.underlying60 rfl (by kernel_rfl)) rfl ?_
               exact ⟨by first | rfl | (simp [errW_none, errW_some] <;> rfl) | (simp [*, errW_none, errW_some] <;> rfl), by repeat (first | (with_reducible first | exact HI0.out | apply IsS139.alloc | apply IsS139.drewN | apply IsS139.drew | apply IsS139.set_1 | apply IsS139.set_2 | refine IsS139.far ?_ NB0_215.out _ | refine IsS139.far ?_ NB0_216.out _ | refine IsS139.far ?_ NB0_232.out _) | exact HI0.out), by repeat (first | (with_reducible first | exact HB.out | apply bal | apply pdn | apply bd1 | refine bst ?_ (IsS139.ge HI0.out) | refine bst ?_ GE215.out | refine bst ?_ GE216.out | refine bst ?_ GE232.out) | exact HB.out), by repeat (first | (with_reducible first | exact HK.out | apply KeepBut.set_ | apply keep_drewN | apply keep_drew | apply keep_alloc | refine keep_far ?_ GW215.out _ | refine keep_far ?_ GW216.out _ | refine keep_far ?_ GW232.out _) | exact HK.out)⟩
              ·rw [if_neg c79] at H
               have c79b0 : (t245 == 1) = false := beq_eq_false_iff_ne.mpr c79
               have c79b1 : (t245 != 1) = true := bne_iff_ne.mpr c79
               by_cases c90 : t245 = 2
               ·rw [if_pos c90] at H
                have c90b0 : (t245 == 2) = true := beq_iff_eq.mpr c90
                have c90b1 : (t245 != 2) = false := bne_eq_false_iff_eq.mpr c90
                clear c90
                simp only [Option.some.injEq, Prod.mk.injEq] at H
                obtain ⟨rfl, rfl, rfl, rfl, rfl⟩ := H
                go_wp2_with (first | ((with_reducible refine gate_callee (f := 82) rfl ?_); refine goesL_ (some 52) rfl rfl Try.func82 (by kernel_rfl) rfl #[.pointer (some ⟨g, 0, none⟩), .int .i64 30] rfl (by (try simp only [mta, mco, mni]); first | done | rfl | (simp only [lnd, lnt]; rfl)) ?_; (with_reducible refine (spec_l00Src_pick.calls g s0_0 x1001_56 x1002_56 30 t245 t246 t247 w0 _ ?side1 ?side2 A65.out).mono ?_); (case side1 => repeat (first | (with_reducible first | exact HI0.out | apply IsS139.alloc | apply IsS139.drewN | apply IsS139.drew | apply IsS139.set_1 | apply IsS139.set_2 | refine IsS139.far ?_ NB0_215.out _ | refine IsS139.far ?_ NB0_216.out _ | refine IsS139.far ?_ NB0_232.out _) | exact HI0.out)); (case side2 => repeat (first | (with_reducible first | exact HB.out | apply bal | apply pdn | apply bd1 | refine bst ?_ (IsS139.ge HI0.out) | refine bst ?_ GE215.out | refine bst ?_ GE216.out | refine bst ?_ GE232.out) | exact HB.out)); rintro e w91 ⟨rfl, hi, hb, hk⟩; refine ⟨_, rfl, ?_⟩; have n0_ := am (KeepBut.blk hk (g' := gb215) (o := .cells #[.int .i64 a1_0, .int .i64 a1_1] 84 (0, 0)) (by (with_reducible repeat (first | apply kdn | apply kdr | apply kal)); exact BK215.out) NB215_0.out (by simp)); have n1_ := am (KeepBut.blk hk (g' := gb216) (o := .cells #[.int .i64 0, .int .i64 0, .string (⟨#[]⟩ : ByteArray)] 60 (0, 0)) (by (with_reducible repeat (first | apply kdn | apply kdr | apply kal)); exact BK216.out) NB216_0.out (by simp)); have n2_ := am (KeepBut.blk hk (g' := gb232) (o := .cells #[.int .i64 x5_19, .int .i64 x233001_33, .string x233002_56] 60 (0, 0)) (by (with_reducible repeat (first | apply kdn | apply kdr | apply kal)); exact BK232.out) NB232_0.out (by simp)); have n3_ := am (KeepBut.trans (by repeat (first | (with_reducible first | exact HK.out | apply KeepBut.set_ | apply keep_drewN | apply keep_drew | apply keep_alloc | refine keep_far ?_ GW215.out _ | refine keep_far ?_ GW216.out _ | refine keep_far ?_ GW232.out _) | exact HK.out)) hk (.inl rfl)); have n4_ := am (hb); have n5_ := am (hi); clear BK215; clear BK216; clear BK232; clear HK; clear HB; clear HI0; have BK215 := n0_; have BK216 := n1_; have BK232 := n2_; have HK := n3_; have HB := n4_; have HI0 := n5_; clear n0_ n1_ n2_ n3_ n4_ n5_; (try clear hb); (try clear hb2); (try clear hk); (try clear hi); have hnb92 := NB232_215.out; have hnc92 := NB215_232.out; have hnb93 := NB232_216.out; have hnc93 := NB216_232.out; have hnb94 := NB232_0.out; have hnc94 := NB0_232.out; have hcz95_0 : w91.cell? ⟨gb232, 0, none⟩ = some (.int .i64 x5_19) := (kce BK232.out 0).trans rfl; have hcz95_1 : w91.cell? ⟨gb232, 1, none⟩ = some (.int .i64 x233001_33) := (kce BK232.out 1).trans rfl; have hcz95_2 : w91.cell? ⟨gb232, 2, none⟩ = some (.string x233002_56) := (kce BK232.out 2).trans rfl; have hfz95_0 := kfr BK232.out 0; have hfz95_1 := kfr BK232.out 1; have hfz95_2 := kfr BK232.out 2; have hnb96 := NB216_215.out; have hnc96 := NB215_216.out; have hnb97 := NB216_0.out; have hnc97 := NB0_216.out; have hcz98_0 : w91.cell? ⟨gb216, 0, none⟩ = some (.int .i64 0) := (kce BK216.out 0).trans rfl; have hcz98_1 : w91.cell? ⟨gb216, 1, none⟩ = some (.int .i64 0) := (kce BK216.out 1).trans rfl; have hcz98_2 : w91.cell? ⟨gb216, 2, none⟩ = some (.string (⟨#[]⟩ : ByteArray)) := (kce BK216.out 2).trans rfl; have hfz98_0 := kfr BK216.out 0; have hfz98_1 := kfr BK216.out 1; have hfz98_2 := kfr BK216.out 2))
                refine bodyPost_ret (results_cell_row rfl _ _ gb216 60 #[.int .i64 x5_19, .int .i64 x233001_33, .string (⟨#[120]⟩ : ByteArray)] (0, 0) _ rfl (by (with_reducible repeat (first | apply kdn | apply kdr | apply kal)); refine blk_put (cs := #[.int .i64 x5_19, .int .i64 x233001_33, .string (⟨#[]⟩ : ByteArray)]) ?_ 2 _ rfl; (with_reducible repeat (first | apply kdn | apply kdr | apply kal)); refine blk_put (cs := #[.int .i64 x5_19, .int .i64 0, .string (⟨#[]⟩ : ByteArray)]) ?_ 1 _ rfl; (with_reducible repeat (first | apply kdn | apply kdr | apply kal)); refine blk_put (cs := #[.int .i64 0, .int .i64 0, .string (⟨#[]⟩ : ByteArray)]) ?_ 0 _ rfl; (with_reducible repeat (first | apply kdn | apply kdr | apply kal)); refine blk_far ?_ NB216_232.out _; (with_reducible repeat (first | apply kdn | apply kdr | apply kal)); exact BK216.out) Try.underlying60 rfl (by kernel_rfl)) rfl ?_
                exact ⟨by first | rfl | (simp [errW_none, errW_some] <;> rfl) | (simp [*, errW_none, errW_some] <;> rfl), by repeat (first | (with_reducible first | exact HI0.out | apply IsS139.alloc | apply IsS139.drewN | apply IsS139.drew | apply IsS139.set_1 | apply IsS139.set_2 | refine IsS139.far ?_ NB0_215.out _ | refine IsS139.far ?_ NB0_216.out _ | refine IsS139.far ?_ NB0_232.out _) | exact HI0.out), by repeat (first | (with_reducible first | exact HB.out | apply bal | apply pdn | apply bd1 | refine bst ?_ (IsS139.ge HI0.out) | refine bst ?_ GE215.out | refine bst ?_ GE216.out | refine bst ?_ GE232.out) | exact HB.out), by repeat (first | (with_reducible first | exact HK.out | apply KeepBut.set_ | apply keep_drewN | apply keep_drew | apply keep_alloc | refine keep_far ?_ GW215.out _ | refine keep_far ?_ GW216.out _ | refine keep_far ?_ GW232.out _) | exact HK.out)⟩
               ·rw [if_neg c90] at H
                have c90b0 : (t245 == 2) = false := beq_eq_false_iff_ne.mpr c90
                have c90b1 : (t245 != 2) = true := bne_iff_ne.mpr c90
                simp only [Option.some.injEq, Prod.mk.injEq] at H
                obtain ⟨rfl, rfl, rfl, rfl, rfl⟩ := H
                go_wp2_with (first | ((with_reducible refine gate_callee (f := 82) rfl ?_); refine goesL_ (some 52) rfl rfl Try.func82 (by kernel_rfl) rfl #[.pointer (some ⟨g, 0, none⟩), .int .i64 30] rfl (by (try simp only [mta, mco, mni]); first | done | rfl | (simp only [lnd, lnt]; rfl)) ?_; (with_reducible refine (spec_l00Src_pick.calls g s0_0 x1001_56 x1002_56 30 t245 t246 t247 w0 _ ?side1 ?side2 A65.out).mono ?_); (case side1 => repeat (first | (with_reducible first | exact HI0.out | apply IsS139.alloc | apply IsS139.drewN | apply IsS139.drew | apply IsS139.set_1 | apply IsS139.set_2 | refine IsS139.far ?_ NB0_215.out _ | refine IsS139.far ?_ NB0_216.out _ | refine IsS139.far ?_ NB0_232.out _) | exact HI0.out)); (case side2 => repeat (first | (with_reducible first | exact HB.out | apply bal | apply pdn | apply bd1 | refine bst ?_ (IsS139.ge HI0.out) | refine bst ?_ GE215.out | refine bst ?_ GE216.out | refine bst ?_ GE232.out) | exact HB.out)); rintro e w99 ⟨rfl, hi, hb, hk⟩; refine ⟨_, rfl, ?_⟩; have n0_ := am (KeepBut.blk hk (g' := gb215) (o := .cells #[.int .i64 a1_0, .int .i64 a1_1] 84 (0, 0)) (by (with_reducible repeat (first | apply kdn | apply kdr | apply kal)); exact BK215.out) NB215_0.out (by simp)); have n1_ := am (KeepBut.blk hk (g' := gb216) (o := .cells #[.int .i64 0, .int .i64 0, .string (⟨#[]⟩ : ByteArray)] 60 (0, 0)) (by (with_reducible repeat (first | apply kdn | apply kdr | apply kal)); exact BK216.out) NB216_0.out (by simp)); have n2_ := am (KeepBut.blk hk (g' := gb232) (o := .cells #[.int .i64 x5_19, .int .i64 x233001_33, .string x233002_56] 60 (0, 0)) (by (with_reducible repeat (first | apply kdn | apply kdr | apply kal)); exact BK232.out) NB232_0.out (by simp)); have n3_ := am (KeepBut.trans (by repeat (first | (with_reducible first | exact HK.out | apply KeepBut.set_ | apply keep_drewN | apply keep_drew | apply keep_alloc | refine keep_far ?_ GW215.out _ | refine keep_far ?_ GW216.out _ | refine keep_far ?_ GW232.out _) | exact HK.out)) hk (.inl rfl)); have n4_ := am (hb); have n5_ := am (hi); clear BK215; clear BK216; clear BK232; clear HK; clear HB; clear HI0; have BK215 := n0_; have BK216 := n1_; have BK232 := n2_; have HK := n3_; have HB := n4_; have HI0 := n5_; clear n0_ n1_ n2_ n3_ n4_ n5_; (try clear hb); (try clear hb2); (try clear hk); (try clear hi); have hnb100 := NB232_215.out; have hnc100 := NB215_232.out; have hnb101 := NB232_216.out; have hnc101 := NB216_232.out; have hnb102 := NB232_0.out; have hnc102 := NB0_232.out; have hcz103_0 : w99.cell? ⟨gb232, 0, none⟩ = some (.int .i64 x5_19) := (kce BK232.out 0).trans rfl; have hcz103_1 : w99.cell? ⟨gb232, 1, none⟩ = some (.int .i64 x233001_33) := (kce BK232.out 1).trans rfl; have hcz103_2 : w99.cell? ⟨gb232, 2, none⟩ = some (.string x233002_56) := (kce BK232.out 2).trans rfl; have hfz103_0 := kfr BK232.out 0; have hfz103_1 := kfr BK232.out 1; have hfz103_2 := kfr BK232.out 2; have hnb104 := NB216_215.out; have hnc104 := NB215_216.out; have hnb105 := NB216_0.out; have hnc105 := NB0_216.out; have hcz106_0 : w99.cell? ⟨gb216, 0, none⟩ = some (.int .i64 0) := (kce BK216.out 0).trans rfl; have hcz106_1 : w99.cell? ⟨gb216, 1, none⟩ = some (.int .i64 0) := (kce BK216.out 1).trans rfl; have hcz106_2 : w99.cell? ⟨gb216, 2, none⟩ = some (.string (⟨#[]⟩ : ByteArray)) := (kce BK216.out 2).trans rfl; have hfz106_0 := kfr BK216.out 0; have hfz106_1 := kfr BK216.out 1; have hfz106_2 := kfr BK216.out 2))
                refine bodyPost_ret (results_cell_row rfl _ _ gb216 60 #[.int .i64 x5_19, .int .i64 x233001_33, .string x233002_56] (0, 0) _ rfl (by (with_reducible repeat (first | apply kdn | apply kdr | apply kal)); refine blk_put (cs := #[.int .i64 x5_19, .int .i64 x233001_33, .string (⟨#[]⟩ : ByteArray)]) ?_ 2 _ rfl; (with_reducible repeat (first | apply kdn | apply kdr | apply kal)); refine blk_put (cs := #[.int .i64 x5_19, .int .i64 0, .string (⟨#[]⟩ : ByteArray)]) ?_ 1 _ rfl; (with_reducible repeat (first | apply kdn | apply kdr | apply kal)); refine blk_put (cs := #[.int .i64 0, .int .i64 0, .string (⟨#[]⟩ : ByteArray)]) ?_ 0 _ rfl; (with_reducible repeat (first | apply kdn | apply kdr | apply kal)); exact BK216.out) Try.underlying60 rfl (by kernel_rfl)) rfl ?_
                exact ⟨by first | rfl | (simp [errW_none, errW_some] <;> rfl) | (simp [*, errW_none, errW_some] <;> rfl), by repeat (first | (with_reducible first | exact HI0.out | apply IsS139.alloc | apply IsS139.drewN | apply IsS139.drew | apply IsS139.set_1 | apply IsS139.set_2 | refine IsS139.far ?_ NB0_215.out _ | refine IsS139.far ?_ NB0_216.out _ | refine IsS139.far ?_ NB0_232.out _) | exact HI0.out), by repeat (first | (with_reducible first | exact HB.out | apply bal | apply pdn | apply bd1 | refine bst ?_ (IsS139.ge HI0.out) | refine bst ?_ GE215.out | refine bst ?_ GE216.out | refine bst ?_ GE232.out) | exact HB.out), by repeat (first | (with_reducible first | exact HK.out | apply KeepBut.set_ | apply keep_drewN | apply keep_drew | apply keep_alloc | refine keep_far ?_ GW215.out _ | refine keep_far ?_ GW216.out _ | refine keep_far ?_ GW232.out _) | exact HK.out)⟩

end Go.Proofs.Ythphhklbliambaa.MFnOps
