-- Written by a program of this session (wip/tools/myprint.py) over the kit's print: it is not the kit's print.
import Derived.Test.YthphhklbliambaaExtra
import Derived.Test.YthphhklbliambaaMFnDiskKeepsx0
import Derived.Test.YthphhklbliambaaMFnDiskKeepsx4
namespace Go.Proofs.Ythphhklbliambaa.MFnDiskKeeps
open Go.RowKit Go.Proofs.YthphhklbliambaaW.PrintWords Go.Proofs.YthphhklbliambaaW.PrintLast Go.Proofs.YthphhklbliambaaW.PrintMore
open List renaming setIfInBounds_toArray → sit, set_cons_zero → scz, set_cons_succ → scs, map_toArray → mta, map_cons → mco, map_nil → mni, length_drop → lnd, length_take → lnt
open World renaming block_lt_of_cell? → blc
attribute [local go_sem] max2_int min2_int max_two min_two max_three min_three max_four min_four   -- for this text's walks alone
set_option linter.unusedVariables false
set_option linter.unusedSimpArgs false

/-! ### spec_l14Disk: function 80 -/
mutual
def spec_l14Disk.l0 : Nat → Int → Int → Int → List Int → Int → Int → List ByteArray → List (S55) → Option (List ByteArray × (List (S55)) × Int × Int)
 | 0, _, _, _, _, _, _, _, _ => none
 | k + 1, x5, x20, x21, x1000, x1001, x1002, x196000, x196001 => if x21 < x20 then ((spec_l14Sector.f k x1000 x1001 x1002).bind fun bt196 => (if 0 ≤ x21 then (if x21 < (x196000.length : Int) then (spec_l14Disk.l0 k x5 x20 (wrap64 (x21 + 1)) x1000 bt196.2.1 bt196.2.2 (x196000.set (x21 : Int).toNat bt196.1) x196001) else (none)) else (none))) else ((spec_l00Src_pick.f x1000 x1001 x1002 5).bind fun bt200 => (spec_l14Disk.l1 k x5 bt200.1 x1000 bt200.2.1 bt200.2.2 x196000 x196001))
def spec_l14Disk.l1 : Nat → Int → Int → List Int → Int → Int → List ByteArray → List (S55) → Option (List ByteArray × (List (S55)) × Int × Int)
 | 0, _, _, _, _, _, _, _ => none
 | k + 1, x5, x7, x1000, x1001, x1002, x196000, x196001 => if x7 > 0 then ((spec_l00Src_pick.f x1000 x1001 x1002 x5).bind fun bt203 => ((spec_l14Sector.f k x1000 bt203.2.1 bt203.2.2).bind fun bt206 => (if x196001.length < 5864062014805 then (spec_l14Disk.l1 k x5 (wrap64 (x7 - 1)) x1000 bt206.2.1 bt206.2.2 x196000 (x196001 ++ [(⟨bt203.1, bt206.1⟩ : S55)])) else (none)))) else ((spec_l00Src_pick.f x1000 x1001 x1002 20).bind fun bt212 => (if bt212.1 = 0 then ((spec_l00Src_pick.f x1000 bt212.2.1 bt212.2.2 7).bind fun bt215 => ((spec_l14Sector.f k x1000 bt215.2.1 bt215.2.2).bind fun bt218 => ((spec_l00Src_pick.f x1000 bt218.2.1 bt218.2.2 2).bind fun bt221 => (if 0 ≤ bt221.1 then (if bt221.1 ≤ (bt218.1.size : Int) then (if x196001.length < 5864062014805 then (some (x196000, (x196001 ++ [(⟨wrap64 (bt215.1 - 1), bt218.1.extract (bt221.1 : Int).toNat bt218.1.size⟩ : S55)]), bt221.2.1, bt221.2.2)) else (none)) else (none)) else (none))))) else (if bt212.1 = 1 then (if 0 < (x196000.length : Int) then (if 1 ≤ ((rdOf ByteArray.empty x196000 0).size : Int) then (some ((x196000.set (0 : Int).toNat ((rdOf ByteArray.empty x196000 0).extract 1 (rdOf ByteArray.empty x196000 0).size)), x196001, bt212.2.1, bt212.2.2)) else (none)) else (none)) else (if bt212.1 = 2 then (some (([] : List ByteArray), x196001, bt212.2.1, bt212.2.2)) else (if bt212.1 = 3 then (spec_l14Disk.l2 k x1000 bt212.2.1 bt212.2.2 x196000 x196001) else (some (x196000, x196001, bt212.2.1, bt212.2.2)))))))
def spec_l14Disk.l2 : Nat → List Int → Int → Int → List ByteArray → List (S55) → Option (List ByteArray × (List (S55)) × Int × Int)
 | 0, _, _, _, _, _ => none
 | k + 1, x1000, x1001, x1002, x196000, x196001 => (spec_l00Src_pick.f x1000 x1001 x1002 3).bind fun bt229 => (if (x196001.length : Int) < (wrap64 (599 + bt229.1)) then (if 0 < (x196000.length : Int) then (if x196001.length < 5864062014805 then (spec_l14Disk.l2 k x1000 bt229.2.1 bt229.2.2 x196000 (x196001 ++ [(⟨0, rdOf ByteArray.empty x196000 0⟩ : S55)])) else (none)) else (none)) else (some (x196000, x196001, bt229.2.1, bt229.2.2)))
end
def spec_l14Disk.f (k : Nat) (s0_0 : List Int) (s0_1 : Int) (s0_2 : Int) : Option (List ByteArray × (List (S55)) × Int × Int) := (spec_l00Src_pick.f s0_0 s0_1 s0_2 5).bind fun bt185 => ((spec_NewDisk.f k (wrap64 (1 + bt185.1))).bind fun bt188 => (spec_l14Disk.l0 k (bt188.1.length : Int) (bt188.1.length : Int) 0 s0_0 bt185.2.1 bt185.2.2 bt188.1 bt188.2.1))
theorem spec_l14Disk.mono_l : ∀ k, (∀ y0 y1 y2 y3 y4 y5 y6 y7, LeO (spec_l14Disk.l0 k y0 y1 y2 y3 y4 y5 y6 y7) (spec_l14Disk.l0 (k + 1) y0 y1 y2 y3 y4 y5 y6 y7)) ∧ (∀ y0 y1 y2 y3 y4 y5 y6, LeO (spec_l14Disk.l1 k y0 y1 y2 y3 y4 y5 y6) (spec_l14Disk.l1 (k + 1) y0 y1 y2 y3 y4 y5 y6)) ∧ (∀ y0 y1 y2 y3 y4, LeO (spec_l14Disk.l2 k y0 y1 y2 y3 y4) (spec_l14Disk.l2 (k + 1) y0 y1 y2 y3 y4))
 | 0 => ⟨fun _ _ _ _ _ _ _ _ r h => by simp [spec_l14Disk.l0] at h, fun _ _ _ _ _ _ _ r h => by simp [spec_l14Disk.l1] at h, fun _ _ _ _ _ r h => by simp [spec_l14Disk.l2] at h⟩
 | k + 1 => by
  obtain ⟨ih0, ih1, ih2⟩ := spec_l14Disk.mono_l k
  refine ⟨?_, ?_, ?_⟩
  ·intro y0 y1 y2 y3 y4 y5 y6 y7
   unfold spec_l14Disk.l0
   repeat' first
   | (with_reducible exact ih0 _ _ _ _ _ _ _ _)
   | (with_reducible exact ih1 _ _ _ _ _ _ _)
   | (with_reducible exact ih2 _ _ _ _ _)
   | (with_reducible exact spec_NewDisk.mono _ _)
   | (with_reducible exact spec_l14Sector.mono _ _ _ _)
   | (with_reducible exact LeO.refl _)
   | (with_reducible exact LeO.none _)
   | (with_reducible refine LeO.ite ?_ ?_)
   | (with_reducible refine LeO.bind ?_ (fun _ => ?_))
   | exact ih0 _ _ _ _ _ _ _ _
   | exact ih1 _ _ _ _ _ _ _
   | exact ih2 _ _ _ _ _
   | exact spec_NewDisk.mono _ _
   | exact spec_l14Sector.mono _ _ _ _
   | exact LeO.none _
   | refine LeO.ite ?_ ?_
   | refine LeO.bind ?_ (fun _ => ?_)
  ·intro y0 y1 y2 y3 y4 y5 y6
   unfold spec_l14Disk.l1
   repeat' first
   | (with_reducible exact ih0 _ _ _ _ _ _ _ _)
   | (with_reducible exact ih1 _ _ _ _ _ _ _)
   | (with_reducible exact ih2 _ _ _ _ _)
   | (with_reducible exact spec_NewDisk.mono _ _)
   | (with_reducible exact spec_l14Sector.mono _ _ _ _)
   | (with_reducible exact LeO.refl _)
   | (with_reducible exact LeO.none _)
   | (with_reducible refine LeO.ite ?_ ?_)
   | (with_reducible refine LeO.bind ?_ (fun _ => ?_))
   | exact ih0 _ _ _ _ _ _ _ _
   | exact ih1 _ _ _ _ _ _ _
   | exact ih2 _ _ _ _ _
   | exact spec_NewDisk.mono _ _
   | exact spec_l14Sector.mono _ _ _ _
   | exact LeO.none _
   | refine LeO.ite ?_ ?_
   | refine LeO.bind ?_ (fun _ => ?_)
  ·intro y0 y1 y2 y3 y4
   unfold spec_l14Disk.l2
   repeat' first
   | (with_reducible exact ih0 _ _ _ _ _ _ _ _)
   | (with_reducible exact ih1 _ _ _ _ _ _ _)
   | (with_reducible exact ih2 _ _ _ _ _)
   | (with_reducible exact spec_NewDisk.mono _ _)
   | (with_reducible exact spec_l14Sector.mono _ _ _ _)
   | (with_reducible exact LeO.refl _)
   | (with_reducible exact LeO.none _)
   | (with_reducible refine LeO.ite ?_ ?_)
   | (with_reducible refine LeO.bind ?_ (fun _ => ?_))
   | exact ih0 _ _ _ _ _ _ _ _
   | exact ih1 _ _ _ _ _ _ _
   | exact ih2 _ _ _ _ _
   | exact spec_NewDisk.mono _ _
   | exact spec_l14Sector.mono _ _ _ _
   | exact LeO.none _
   | refine LeO.ite ?_ ?_
   | refine LeO.bind ?_ (fun _ => ?_)
theorem spec_l14Disk.mono : ∀ a0 a1 a2 k, LeO (spec_l14Disk.f k a0 a1 a2) (spec_l14Disk.f (k + 1) a0 a1 a2) := by
 intro a0 a1 a2 k
 obtain ⟨ih0, ih1, ih2⟩ := spec_l14Disk.mono_l k
 unfold spec_l14Disk.f
 repeat' first
   | (with_reducible exact ih0 _ _ _ _ _ _ _ _)
   | (with_reducible exact ih1 _ _ _ _ _ _ _)
   | (with_reducible exact ih2 _ _ _ _ _)
   | (with_reducible exact spec_NewDisk.mono _ _)
   | (with_reducible exact spec_l14Sector.mono _ _ _ _)
   | (with_reducible exact LeO.refl _)
   | (with_reducible exact LeO.none _)
   | (with_reducible refine LeO.ite ?_ ?_)
   | (with_reducible refine LeO.bind ?_ (fun _ => ?_))
   | exact ih0 _ _ _ _ _ _ _ _
   | exact ih1 _ _ _ _ _ _ _
   | exact ih2 _ _ _ _ _
   | exact spec_NewDisk.mono _ _
   | exact spec_l14Sector.mono _ _ _ _
   | exact LeO.none _
   | refine LeO.ite ?_ ?_
   | refine LeO.bind ?_ (fun _ => ?_)
def spec_l14Disk.T11 : Bool × List (List Nat × List Nat) := (true, [([], []), ([0], [0]), ([], []), ([], []), ([2, 3], [2, 3]), ([], []), ([5, 4], [5]), ([4, 6], [4, 6]), ([7], [7]), ([1, 8, 6], [1, 8]), ([0, 1, 2, 3, 4, 5, 6, 7, 8, 9], []), ([10, 9, 9, 0, 1, 2, 3, 4, 5, 6, 7, 8, 9], [9, 10])])
def spec_l14Disk.B11 : List Nat := [0, 1, 0, 0, 12, 0, 60, 124, 252, 511, 1023, 2047]
theorem spec_l14Disk.tab11 : rtab .any (opsOf Try.f80 11) = spec_l14Disk.T11 := by kernel_rfl
theorem spec_l14Disk.bits11 : waitsOk spec_l14Disk.T11.2 spec_l14Disk.B11 = true := by kernel_rfl
def spec_l14Disk.T14 : Bool × List (List Nat × List Nat) := (true, [([], []), ([0], [0]), ([], []), ([2], [2]), ([3], [3]), ([], []), ([5, 3], [5]), ([], []), ([7, 6], [7]), ([6, 8], [6, 8]), ([4, 9], [4, 9]), ([10], [10]), ([1, 11, 8], [1, 11]), ([0, 1, 2, 3, 4, 5, 6, 7, 8, 9, 10, 11, 12], []), ([13, 12, 12, 0, 1, 2, 3, 4, 5, 6, 7, 8, 9, 10, 11, 12], [12, 13])])
def spec_l14Disk.B14 : List Nat := [0, 1, 0, 4, 12, 0, 44, 0, 236, 492, 1020, 2044, 4095, 8191, 16383]
theorem spec_l14Disk.tab14 : rtab .any (opsOf Try.f80 14) = spec_l14Disk.T14 := by kernel_rfl
theorem spec_l14Disk.bits14 : waitsOk spec_l14Disk.T14.2 spec_l14Disk.B14 = true := by kernel_rfl
def spec_l14Disk.T16 : Bool × List (List Nat × List Nat) := (true, [([], []), ([0], [0]), ([], []), ([2], [2]), ([3], [3]), ([4], [4]), ([5], [5]), ([1, 0, 1, 2, 3, 4, 5, 6], [1]), ([7, 6, 0, 1, 2, 3, 4, 5, 6], [6, 7])])
def spec_l14Disk.B16 : List Nat := [0, 1, 0, 4, 12, 28, 60, 127, 255]
theorem spec_l14Disk.tab16 : rtab .any (opsOf Try.f80 16) = spec_l14Disk.T16 := by kernel_rfl
theorem spec_l14Disk.bits16 : waitsOk spec_l14Disk.T16.2 spec_l14Disk.B16 = true := by kernel_rfl
def spec_l14Disk.T21 : Bool × List (List Nat × List Nat) := (true, [([], []), ([0], [0]), ([], []), ([2], [2]), ([3], [3]), ([4], [4]), ([5], [5]), ([6], [6]), ([1, 7], [1, 7]), ([0, 1, 2, 3, 4, 5, 6, 7, 8], []), ([9, 8, 8, 0, 1, 2, 3, 4, 5, 6, 7, 8], [8, 9])])
def spec_l14Disk.B21 : List Nat := [0, 1, 0, 4, 12, 28, 60, 124, 255, 511, 1023]
theorem spec_l14Disk.tab21 : rtab .any (opsOf Try.f80 21) = spec_l14Disk.T21 := by kernel_rfl
theorem spec_l14Disk.bits21 : waitsOk spec_l14Disk.T21.2 spec_l14Disk.B21 = true := by kernel_rfl
set_option maxHeartbeats 8000000 in
set_option maxRecDepth 100000 in
theorem spec_l14Disk.calls (k : Nat) (g : Nat) (s0_0 : List Int) (s0_1 : Int) (s0_2 : Int) (r1 : List ByteArray) (r2 : List (S55)) (r3 : Int) (r4 : Int) (w0 w : World) (hI : IsS139 w0 w g s0_0 s0_1 s0_2) (hB : Below w0.heap.size w0 w) (h : spec_l14Disk.f k s0_0 s0_1 s0_2 = some (r1, r2, r3, r4)) :
  Calls Try.prog 80 #[.pointer (some ⟨g, 0, none⟩)] w fun e w' => ∃ v0_ v1_ : Value, e = .returned (.agg #[v0_, v1_]) ∧ Kd.R Kd.string 9 w' w.heap.size (fun _ => True) v0_ r1 ∧ Kd.R k55 55 w' w.heap.size (fun _ => True) v1_ r2 ∧ IsS139 w0 w' g s0_0 r3 r4 ∧ Below w0.heap.size w0 w' ∧ KeepBut w w' g none := by
 have hu30 := Try.underlying30
 have hu55 := Try.underlying55
 have HI0 := am hI
 have HK := am (KeepBut.refl w g none)
 have HL := am hB.size
 clear hI
 have HW0 := am hB.size
 have HB := am hB
 clear hB
 have H : ((spec_l00Src_pick.f s0_0 s0_1 s0_2 5).bind fun bt185 => ((spec_NewDisk.f k (wrap64 (1 + bt185.1))).bind fun bt188 => (spec_l14Disk.l0 k (bt188.1.length : Int) (bt188.1.length : Int) 0 s0_0 bt185.2.1 bt185.2.2 bt188.1 bt188.2.1))) = some (r1, r2, r3, r4) := h
 clear h
 replace H := Option.bind_eq_some_iff.mp H
 obtain ⟨⟨t185, t186, t187⟩, A20, H⟩ := H
 replace H : ((spec_NewDisk.f k (wrap64 (1 + t185))).bind fun bt188 => (spec_l14Disk.l0 k (bt188.1.length : Int) (bt188.1.length : Int) 0 s0_0 t186 t187 bt188.1 bt188.2.1)) = some (r1, r2, r3, r4) := H
 have A2 := am A20
 clear A20
 replace H := Option.bind_eq_some_iff.mp H
 obtain ⟨⟨t188, t191, t194⟩, A30, H⟩ := H
 replace H : (spec_l14Disk.l0 k (t188.length : Int) (t188.length : Int) 0 s0_0 t186 t187 t188 t191) = some (r1, r2, r3, r4) := H
 have A3 := am A30
 clear A30
 have H' := am H
 clear H
 go_enter Try.func80, Try.ntmps80
 go_wp2_with (first | ((with_reducible refine gate_dst (N := 2) rfl ?_); refine box_event ?hg (N := 2) ?hd (cs := #[.slice none 0 0, .slice none 0 0]) (t := 30) ?hr ?_; (case hd => rfl); (case hg => rfl); (case hr => first | (go_simp; done) | (go_simp; rfl)); intro gb184 hg w4 hbox hb; have n0_ := am (IsS139.below (by repeat (first | (with_reducible first | exact HI0.out | apply IsS139.alloc | apply IsS139.drewN | apply IsS139.drew | apply IsS139.set_1 | apply IsS139.set_2) | exact HI0.out)) hb); have n1_ := am (KeepBut.trans (by repeat (first | (with_reducible first | exact HK.out | apply KeepBut.set_ | apply keep_drewN | apply keep_drew | apply keep_alloc) | exact HK.out)) (KeepBut.of_below hb g none) (.inl rfl)); have n2_ := am (below_step (by repeat (first | (with_reducible first | exact HB.out | apply bal | apply pdn | apply bd1 | refine bst ?_ (IsS139.ge HI0.out)) | exact HB.out)) hb); have n3_ := am (hbox); have n4_ := am ((by rw [hg]; exact (keep_size (w := w) (g := g) (row := none) (by repeat (first | (with_reducible first | exact HK.out | apply KeepBut.set_ | apply keep_drewN | apply keep_drew | apply keep_alloc) | exact HK.out))) : w.heap.size ≤ gb184)); have n5_ := am ((Nat.le_trans HW0.out (by rw [hg]; exact (keep_size (w := w) (g := g) (row := none) (by repeat (first | (with_reducible first | exact HK.out | apply KeepBut.set_ | apply keep_drewN | apply keep_drew | apply keep_alloc) | exact HK.out))) : w.heap.size ≤ gb184) : w0.heap.size ≤ gb184)); have n6_ := am ((by rw [hg]; exact Nat.ne_of_lt (IsS139.lt (show IsS139 w0 _ g s0_0 s0_1 s0_2 from by repeat (first | (with_reducible first | exact HI0.out | apply IsS139.alloc | apply IsS139.drewN | apply IsS139.drew | apply IsS139.set_1 | apply IsS139.set_2) | exact HI0.out))) : g ≠ gb184)); have n7_ := am ((by rw [hg]; exact Nat.ne_of_gt (IsS139.lt (show IsS139 w0 _ g s0_0 s0_1 s0_2 from by repeat (first | (with_reducible first | exact HI0.out | apply IsS139.alloc | apply IsS139.drewN | apply IsS139.drew | apply IsS139.set_1 | apply IsS139.set_2) | exact HI0.out))) : gb184 ≠ g)); clear HI0; clear HK; clear HB; have HI0 := n0_; have HK := n1_; have HB := n2_; have BK184 := n3_; have GW184 := n4_; have GE184 := n5_; have NB0_184 := n6_; have NB184_0 := n7_; clear n0_ n1_ n2_ n3_ n4_ n5_ n6_ n7_; clear hb hbox hg) | ((with_reducible refine gate_callee (f := 82) rfl ?_); refine goesL_ (some 10) rfl rfl Try.func82 (by kernel_rfl) rfl #[.pointer (some ⟨g, 0, none⟩), .int .i64 5] rfl (by (try simp only [mta, mco, mni]); first | done | rfl | (simp only [lnd, lnt]; rfl)) ?_; (with_reducible refine (spec_l00Src_pick.calls g s0_0 s0_1 s0_2 5 t185 t186 t187 w0 _ ?side1 ?side2 A2.out).mono ?_); (case side1 => repeat (first | (with_reducible first | exact HI0.out | apply IsS139.alloc | apply IsS139.drewN | apply IsS139.drew | apply IsS139.set_1 | apply IsS139.set_2 | refine IsS139.far ?_ NB0_184.out _) | exact HI0.out)); (case side2 => repeat (first | (with_reducible first | exact HB.out | apply bal | apply pdn | apply bd1 | refine bst ?_ (IsS139.ge HI0.out) | refine bst ?_ GE184.out) | exact HB.out)); rintro e w5 ⟨rfl, hi, hb, hk⟩; refine ⟨_, rfl, ?_⟩; have n0_ := am (KeepBut.blk hk (g' := gb184) (o := .cells #[.slice none 0 0, .slice none 0 0] 30 (0, 0)) (by (with_reducible repeat (first | apply kdn | apply kdr | apply kal)); exact BK184.out) NB184_0.out (by simp)); have n1_ := am (KeepBut.trans (by repeat (first | (with_reducible first | exact HK.out | apply KeepBut.set_ | apply keep_drewN | apply keep_drew | apply keep_alloc | refine keep_far ?_ GW184.out _) | exact HK.out)) hk (.inl rfl)); have n2_ := am (hb); have n3_ := am (hi); clear BK184; clear HK; clear HB; clear HI0; have BK184 := n0_; have HK := n1_; have HB := n2_; have HI0 := n3_; clear n0_ n1_ n2_ n3_; (try clear hb); (try clear hb2); (try clear hk); (try clear hi)) | ((with_reducible refine gate_callee (f := 26) rfl ?_); refine goesL_ (some 12) rfl rfl Try.func26 (by kernel_rfl) rfl #[.int .i64 (wrap64 (1 + t185))] rfl (by (try simp only [mta, mco, mni]); first | done | rfl | (simp only [lnd, lnt]; rfl)) ?_; (with_reducible refine (spec_NewDisk.calls k (wrap64 (1 + t185)) t188 t191 t194 _ A3.out).mono ?_); rintro e w6 ⟨v189, v192, rfl, ho0, ho1, hb⟩; refine ⟨_, rfl, ?_⟩; have n0_ := am (Kd.R_lower ho0 (keep_size (w := w) (g := g) (row := none) (by repeat (first | (with_reducible first | exact HK.out | apply KeepBut.set_ | apply keep_drewN | apply keep_drew | apply keep_alloc | refine keep_far ?_ GW184.out _) | exact HK.out)))); have n1_ := am (Kd.R_lower ho1 (keep_size (w := w) (g := g) (row := none) (by repeat (first | (with_reducible first | exact HK.out | apply KeepBut.set_ | apply keep_drewN | apply keep_drew | apply keep_alloc | refine keep_far ?_ GW184.out _) | exact HK.out)))); have n2_ := am (IsS139.below (by repeat (first | (with_reducible first | exact HI0.out | apply IsS139.alloc | apply IsS139.drewN | apply IsS139.drew | apply IsS139.set_1 | apply IsS139.set_2 | refine IsS139.far ?_ NB0_184.out _) | exact HI0.out)) hb); have n3_ := am (kbb (g := gb184) (o := .cells #[.slice none 0 0, .slice none 0 0] 30 (0, 0)) (by (with_reducible repeat (first | apply kdn | apply kdr | apply kal)); exact BK184.out) hb); have n4_ := am (KeepBut.trans (by repeat (first | (with_reducible first | exact HK.out | apply KeepBut.set_ | apply keep_drewN | apply keep_drew | apply keep_alloc | refine keep_far ?_ GW184.out _) | exact HK.out)) (KeepBut.of_below hb g none) (.inl rfl)); have n5_ := am (below_step (by repeat (first | (with_reducible first | exact HB.out | apply bal | apply pdn | apply bd1 | refine bst ?_ (IsS139.ge HI0.out) | refine bst ?_ GE184.out) | exact HB.out)) hb); clear HI0; clear BK184; clear HK; clear HB; have HO190 := n0_; have HO193 := n1_; have HI0 := n2_; have BK184 := n3_; have HK := n4_; have HB := n5_; clear n0_ n1_ n2_ n3_ n4_ n5_; (try clear hb); (try clear hb2); (try clear hk); (try clear hi); (try clear ho0); (try clear ho1)) | ((with_reducible refine gate_dst (N := 3) rfl ?_); refine box_event ?hg (N := 3) ?hd (cs := #[.slice none 0 0, .slice none 0 0]) (t := 30) ?hr ?_; (case hd => rfl); (case hg => rfl); (case hr => first | (go_simp; done) | (go_simp; rfl)); intro gb195 hg w7 hbox hb; have n0_ := am (krb (by (with_reducible repeat (first | apply kra | apply krn | apply krd)); exact HO190.out) hb); have n1_ := am (krb (by (with_reducible repeat (first | apply kra | apply krn | apply krd)); exact HO193.out) hb); have n2_ := am (IsS139.below (by repeat (first | (with_reducible first | exact HI0.out | apply IsS139.alloc | apply IsS139.drewN | apply IsS139.drew | apply IsS139.set_1 | apply IsS139.set_2 | refine IsS139.far ?_ NB0_184.out _) | exact HI0.out)) hb); have n3_ := am (kbb (g := gb184) (o := .cells #[.slice none 0 0, .slice none 0 0] 30 (0, 0)) (by (with_reducible repeat (first | apply kdn | apply kdr | apply kal)); exact BK184.out) hb); have n4_ := am (KeepBut.trans (by repeat (first | (with_reducible first | exact HK.out | apply KeepBut.set_ | apply keep_drewN | apply keep_drew | apply keep_alloc | refine keep_far ?_ GW184.out _) | exact HK.out)) (KeepBut.of_below hb g none) (.inl rfl)); have n5_ := am (below_step (by repeat (first | (with_reducible first | exact HB.out | apply bal | apply pdn | apply bd1 | refine bst ?_ (IsS139.ge HI0.out) | refine bst ?_ GE184.out) | exact HB.out)) hb); have n6_ := am (hbox); have n7_ := am ((by rw [hg]; exact (keep_size (w := w) (g := g) (row := none) (by repeat (first | (with_reducible first | exact HK.out | apply KeepBut.set_ | apply keep_drewN | apply keep_drew | apply keep_alloc | refine keep_far ?_ GW184.out _) | exact HK.out))) : w.heap.size ≤ gb195)); have n8_ := am ((Nat.le_trans HW0.out (by rw [hg]; exact (keep_size (w := w) (g := g) (row := none) (by repeat (first | (with_reducible first | exact HK.out | apply KeepBut.set_ | apply keep_drewN | apply keep_drew | apply keep_alloc | refine keep_far ?_ GW184.out _) | exact HK.out))) : w.heap.size ≤ gb195) : w0.heap.size ≤ gb195)); have n9_ := am ((by rw [hg]; exact Nat.ne_of_lt (blk_lt (g := gb184) (o := .cells #[.slice none 0 0, .slice none 0 0] 30 (0, 0)) (by (with_reducible repeat (first | apply kdn | apply kdr | apply kal)); exact BK184.out)) : gb184 ≠ gb195)); have n10_ := am ((by rw [hg]; exact Nat.ne_of_gt (blk_lt (g := gb184) (o := .cells #[.slice none 0 0, .slice none 0 0] 30 (0, 0)) (by (with_reducible repeat (first | apply kdn | apply kdr | apply kal)); exact BK184.out)) : gb195 ≠ gb184)); have n11_ := am ((by rw [hg]; exact Nat.ne_of_lt (IsS139.lt (show IsS139 w0 _ g s0_0 t186 t187 from by repeat (first | (with_reducible first | exact HI0.out | apply IsS139.alloc | apply IsS139.drewN | apply IsS139.drew | apply IsS139.set_1 | apply IsS139.set_2 | refine IsS139.far ?_ NB0_184.out _) | exact HI0.out))) : g ≠ gb195)); have n12_ := am ((by rw [hg]; exact Nat.ne_of_gt (IsS139.lt (show IsS139 w0 _ g s0_0 t186 t187 from by repeat (first | (with_reducible first | exact HI0.out | apply IsS139.alloc | apply IsS139.drewN | apply IsS139.drew | apply IsS139.set_1 | apply IsS139.set_2 | refine IsS139.far ?_ NB0_184.out _) | exact HI0.out))) : gb195 ≠ g)); clear HO190; clear HO193; clear HI0; clear BK184; clear HK; clear HB; have HO190 := n0_; have HO193 := n1_; have HI0 := n2_; have BK184 := n3_; have HK := n4_; have HB := n5_; have BK195 := n6_; have GW195 := n7_; have GE195 := n8_; have NB184_195 := n9_; have NB195_184 := n10_; have NB0_195 := n11_; have NB195_0 := n12_; clear n0_ n1_ n2_ n3_ n4_ n5_ n6_ n7_ n8_ n9_ n10_ n11_ n12_; clear hb hbox hg; obtain ⟨Ao8, co8, eo8⟩ := Kd.R_slice HO190.out; subst eo8; have hnb9 := NB195_184.out; have hnc9 := NB184_195.out; have hnb10 := NB195_0.out; have hnc10 := NB0_195.out; have hcz11_0 : w7.cell? ⟨gb195, 0, none⟩ = some (.slice none 0 0) := (kce BK195.out 0).trans rfl; have hcz11_1 : w7.cell? ⟨gb195, 1, none⟩ = some (.slice none 0 0) := (kce BK195.out 1).trans rfl; have hfz11_0 := kfr BK195.out 0; have hfz11_1 := kfr BK195.out 1; obtain ⟨Ao12, co12, eo12⟩ := Kd.R_slice HO193.out; subst eo12))
 go_loopg [21] k (fun kq v21 w' => ∃ (x21_1 : Int) (x1001_1 : Int) (x1002_1 : Int) (x196000_1 : List ByteArray) (u196000 : Value), v21 = .int .i64 x21_1 ∧ Aside0 (spec_l14Disk.l0 kq (t188.length : Int) (t188.length : Int) x21_1 s0_0 x1001_1 x1002_1 x196000_1 t191 = some (r1, r2, r3, r4)) ∧ Aside0 (kq ≤ k) ∧ Aside0 (Kd.R Kd.string 9 w' w.heap.size (fun _ => True) u196000 x196000_1) ∧ Aside0 (Kd.R k55 55 w' w.heap.size (fun _ => True) (.slice Ao12 t191.length co12) t191) ∧ Aside0 (w'.heap[gb184]? = some (.cells #[(.slice none 0 0), (.slice none 0 0)] 30 (0, 0))) ∧ Aside0 (w'.heap[gb195]? = some (.cells #[u196000, (.slice Ao12 t191.length co12)] 30 (0, 0))) ∧ Aside0 (IsS139 w0 w' g s0_0 x1001_1 x1002_1) ∧ Aside0 (KeepBut w w' g none) ∧ Aside0 (Below w0.heap.size w0 w'))
 case atStart => exact ⟨(0), (t186), (t187), (t188), (.slice Ao8 t188.length co8), (by first | rfl | (simp; done) | (simp [*]; done)), H', ⟨Nat.le_refl _⟩, ⟨by (with_reducible repeat (first | apply kra | apply krn | apply krd)); exact Kd.R_mono (kfa (p := ⟨gb195, 1, none⟩) (kfa (p := ⟨gb195, 0, none⟩) (Kd.R_types HO190.out BK195.out (by decide)) (fun _ hk => hk.2) (.slice Ao8 t188.length co8)) (fun _ hk => hk.2) (.slice Ao12 t191.length co12)) (fun _ hk => trivial)⟩, ⟨by (with_reducible repeat (first | apply kra | apply krn | apply krd)); exact Kd.R_mono (kfa (p := ⟨gb195, 1, none⟩) (kfa (p := ⟨gb195, 0, none⟩) (Kd.R_types HO193.out BK195.out (by decide)) (fun _ hk => hk.2) (.slice Ao8 t188.length co8)) (fun _ hk => hk.2) (.slice Ao12 t191.length co12)) (fun _ hk => trivial)⟩, ⟨by (with_reducible repeat (first | apply kdn | apply kdr | apply kal)); refine blk_far ?_ NB184_195.out _; (with_reducible repeat (first | apply kdn | apply kdr | apply kal)); refine blk_far ?_ NB184_195.out _; (with_reducible repeat (first | apply kdn | apply kdr | apply kal)); exact BK184.out⟩, ⟨by (with_reducible repeat (first | apply kdn | apply kdr | apply kal)); refine blk_put (cs := #[.slice Ao8 t188.length co8, .slice none 0 0]) ?_ 1 _ rfl; (with_reducible repeat (first | apply kdn | apply kdr | apply kal)); refine blk_put (cs := #[.slice none 0 0, .slice none 0 0]) ?_ 0 _ rfl; (with_reducible repeat (first | apply kdn | apply kdr | apply kal)); exact BK195.out⟩, ⟨by repeat (first | (with_reducible first | exact HI0.out | apply IsS139.alloc | apply IsS139.drewN | apply IsS139.drew | apply IsS139.set_1 | apply IsS139.set_2 | refine IsS139.far ?_ NB0_184.out _ | refine IsS139.far ?_ NB0_195.out _) | exact HI0.out)⟩, ⟨by repeat (first | (with_reducible first | exact HK.out | apply KeepBut.set_ | apply keep_drewN | apply keep_drew | apply keep_alloc | refine keep_far ?_ GW184.out _ | refine keep_far ?_ GW195.out _) | exact HK.out)⟩, ⟨by repeat (first | (with_reducible first | exact HB.out | apply bal | apply pdn | apply bd1 | refine bst ?_ (IsS139.ge HI0.out) | refine bst ?_ GE184.out | refine bst ?_ GE195.out) | exact HB.out)⟩⟩
 case round =>
  clear H'
  obtain ⟨x21_1, x1001_1, x1002_1, x196000_1, u196000, rfl, HA, HK1, HO_196000, HO_196001, BK184, BK195, HI0, HK, HB⟩ := hrel
  cases gk with
  | zero => exact absurd HA.out (by simp [spec_l14Disk.l0])
  | succ k1 =>
   have H := HA.out
   clear HA
   simp only [spec_l14Disk.l0] at H
   by_cases c13 : x21_1 < (t188.length : Int)
   ·rw [if_pos c13] at H
    have c13b0 : decide (x21_1 < (t188.length : Int)) = true := decide_eq_true c13
    clear c13
    replace H := Option.bind_eq_some_iff.mp H
    obtain ⟨⟨t196, t197, t198⟩, A140, H⟩ := H
    replace H : (if 0 ≤ x21_1 then (if x21_1 < (x196000_1.length : Int) then (spec_l14Disk.l0 k1 (t188.length : Int) (t188.length : Int) (wrap64 (x21_1 + 1)) s0_0 t197 t198 (x196000_1.set (x21_1 : Int).toNat t196) t191) else (none)) else (none)) = some (r1, r2, r3, r4) := H
    have A14 := am A140
    clear A140
    by_cases c15 : 0 ≤ x21_1
    ·rw [if_pos c15] at H
     have c15b0 : decide (0 ≤ x21_1) = true := decide_eq_true c15
     clear c15
     by_cases c16 : x21_1 < (x196000_1.length : Int)
     ·rw [if_pos c16] at H
      have c16b0 : decide (x21_1 < (x196000_1.length : Int)) = true := decide_eq_true c16
      clear c16
      obtain ⟨y199, hy199⟩ : ∃ y_ : List ByteArray, y_ = (x196000_1.set (x21_1 : Int).toNat t196) := ⟨_, rfl⟩
      replace H : (spec_l14Disk.l0 k1 (t188.length : Int) (t188.length : Int) (wrap64 (x21_1 + 1)) s0_0 t197 t198 y199 t191) = some (r1, r2, r3, r4) := by first | (rw [hy199]; with_reducible exact H) | (have H2_ := (Option.bind_some _ _).symm.trans H; rw [hy199]; with_reducible exact H2_) | (have H2_ := (Option.bind_some _ _).symm.trans H; with_reducible exact H2_) | with_reducible exact H | (rw [hy199]; exact H) | exact H
      have Ny199 := am hy199
      clear hy199
      have H' := am H
      clear H
      try go_wp2
      have n0_ := am (krd HO_196000.out)
      have n1_ := am (krd HO_196001.out)
      have n2_ := am (kdr BK184.out)
      have n3_ := am (kdr BK195.out)
      have n4_ := am (IsS139.drew HI0.out)
      have n5_ := am (keep_drew HK.out)
      have n6_ := am (bd1 HB.out)
      clear HO_196000
      clear HO_196001
      clear BK184
      clear BK195
      clear HI0
      clear HK
      clear HB
      have HO_196000 := n0_
      have HO_196001 := n1_
      have BK184 := n2_
      have BK195 := n3_
      have HI0 := n4_
      have HK := n5_
      have HB := n6_
      clear n0_ n1_ n2_ n3_ n4_ n5_ n6_
      refine start_ (n := 7) (S := fun w' => w'.cell? ⟨gb195, 0, none⟩ = some (u196000) ∧ w'.cell? ⟨gb195, 1, none⟩ = some (.slice Ao12 t191.length co12)) (ds := [6]) #[false, false, false, false, false, false, false] (by kernel_rfl) rfl rfl ⟨(kce BK195.out 0).trans rfl, (kce BK195.out 1).trans rfl⟩ (fun hHeld => ?_)
      generalize wr.drew = w18 at HO_196000 HO_196001 BK184 BK195 HI0 HK HB hHeld ⊢
      refine pure_ (i := 0) (N := some 24) (v := ?_) (a' := ?_) #[true, false, false, false, false, false, false] rfl rfl (by kernel_rfl) (fun _ _ _ h => h) (Or.inl ⟨by rfl, ?_⟩) ?_ ?_
      rotate_left
      ·intro w'
       go_simp
       with_reducible rfl
      rotate_left
      ·simp only [Act.put, sit, scz, scs, i64_w, i32_w]
       rfl
      refine pure_ (i := 2) (N := some 26) (v := ?_) (a' := ?_) #[true, false, true, false, false, false, false] rfl rfl (by kernel_rfl) (fun _ _ _ h => h) (Or.inl ⟨by rfl, ?_⟩) ?_ ?_
      rotate_left
      ·intro w'
       go_simp
       with_reducible rfl
      rotate_left
      ·simp only [Act.put, sit, scz, scs, i64_w, i32_w]
       rfl
      refine pure_ (i := 3) (N := some 27) (v := ?_) (a' := ?_) #[true, false, true, true, false, false, false] rfl rfl (by kernel_rfl) (fun _ _ _ h => h) (Or.inl ⟨by rfl, ?_⟩) ?_ ?_
      rotate_left
      ·intro w'
       go_simp
       with_reducible rfl
      rotate_left
      ·simp only [Act.put, sit, scz, scs, i64_w, i32_w]
       rfl
      refine take_ (i := 1) (N := some 25) (v := ?_) (a' := ?_) #[true, true, true, true, false, false, false] rfl rfl (by kernel_rfl) (fun _ _ _ h => h) (Or.inl ⟨by rfl, ?_⟩) hHeld ?_ ?_
      rotate_left
      ·rintro w' ⟨s0, s1⟩
       go_simp
       with_reducible rfl
      rotate_left
      ·simp only [Act.put, sit, scz, scs, i64_w, i32_w]
       rfl
      refine one_ (i := 4) (N := some 28) #[true, true, true, true, true, false, false] rfl rfl (by kernel_rfl) (by decide) (fun K hK => ?_)
      refine goes_ Try.func113 (by kernel_rfl) rfl #[.pointer (some ⟨g, 0, none⟩)] (by rfl) rfl rfl (by (try simp only [mta, mco, mni]); first | done | rfl | (simp only [lnd, lnt]; rfl)) ?_
      with_reducible refine (spec_l14Sector.calls k1 g s0_0 x1001_1 x1002_1 t196 t197 t198 w0 _ ?side1 ?side2 A14.out).mono ?_
      (case side1 => repeat (first | (with_reducible first | exact HI0.out | apply IsS139.alloc | apply IsS139.drewN | apply IsS139.drew | apply IsS139.set_1 | apply IsS139.set_2 | refine IsS139.far ?_ NB0_184.out _ | refine IsS139.far ?_ NB0_195.out _) | exact HI0.out))
      (case side2 => repeat (first | (with_reducible first | exact HB.out | apply bal | apply pdn | apply bd1 | refine bst ?_ (IsS139.ge HI0.out) | refine bst ?_ GE184.out | refine bst ?_ GE195.out) | exact HB.out))
      rintro e w19 ⟨rfl, hi, hb, hk⟩
      refine ⟨_, rfl, ?_⟩
      have n0_ := am (Kd.R_mono (Kd.R_keep (IsS139.apart (show IsS139 w0 _ g s0_0 x1001_1 x1002_1 from by repeat (first | (with_reducible first | exact HI0.out | apply IsS139.alloc | apply IsS139.drewN | apply IsS139.drew | apply IsS139.set_1 | apply IsS139.set_2 | refine IsS139.far ?_ NB0_184.out _ | refine IsS139.far ?_ NB0_195.out _) | exact HI0.out)) (by (with_reducible repeat (first | apply kra | apply krn | apply krd)); exact HO_196000.out) (by decide)) hk (fun _ h => h.2)) (fun _ h => h.1))
      have n1_ := am (Kd.R_mono (Kd.R_keep (IsS139.apart (show IsS139 w0 _ g s0_0 x1001_1 x1002_1 from by repeat (first | (with_reducible first | exact HI0.out | apply IsS139.alloc | apply IsS139.drewN | apply IsS139.drew | apply IsS139.set_1 | apply IsS139.set_2 | refine IsS139.far ?_ NB0_184.out _ | refine IsS139.far ?_ NB0_195.out _) | exact HI0.out)) (by (with_reducible repeat (first | apply kra | apply krn | apply krd)); exact HO_196001.out) (by decide)) hk (fun _ h => h.2)) (fun _ h => h.1))
      have n2_ := am (KeepBut.blk hk (g' := gb184) (o := .cells #[.slice none 0 0, .slice none 0 0] 30 (0, 0)) (by (with_reducible repeat (first | apply kdn | apply kdr | apply kal)); exact BK184.out) NB184_0.out (by simp))
      have n3_ := am (KeepBut.blk hk (g' := gb195) (o := .cells #[u196000, .slice Ao12 t191.length co12] 30 (0, 0)) (by (with_reducible repeat (first | apply kdn | apply kdr | apply kal)); exact BK195.out) NB195_0.out (by simp))
      have n4_ := am (KeepBut.trans (by repeat (first | (with_reducible first | exact HK.out | apply KeepBut.set_ | apply keep_drewN | apply keep_drew | apply keep_alloc | refine keep_far ?_ GW184.out _ | refine keep_far ?_ GW195.out _) | exact HK.out)) hk (.inl rfl))
      have n5_ := am (hb)
      have n6_ := am (hi)
      clear HO_196000
      clear HO_196001
      clear BK184
      clear BK195
      clear HK
      clear HB
      clear HI0
      have HO_196000 := n0_
      have HO_196001 := n1_
      have BK184 := n2_
      have BK195 := n3_
      have HK := n4_
      have HB := n5_
      have HI0 := n6_
      clear n0_ n1_ n2_ n3_ n4_ n5_ n6_
      have p17 : 0 ≤ (x21_1 : Int) := of_decide_eq_true (by first | (with_reducible assumption) | assumption)
      have q17 : (x21_1 : Int) < ((x196000_1.length : Int) : Int) := of_decide_eq_true (by first | (with_reducible assumption) | assumption)
      obtain ⟨go17, co17, eo17, gb17, gl17, cl17, HG17⟩ := Kd.R_form HO_196000.out (by omega)
      (first | cases eo17 | (injection eo17 with ea_ en_ ec_; (first | subst ea_ | (injection ea_ with ea_; subst ea_)); subst ec_; clear en_))
      have GB17 := am gb17
      have GG17 := am HG17
      clear gb17 gl17 HG17
      obtain ⟨hx17_0, hf17_0⟩ := Kd.R_celln (⟨#[]⟩ : ByteArray) HO_196000.out (x21_1 : Int) p17 q17
      replace p17 := eq_true p17
      replace q17 := eq_true q17
      have HN0_go17 := am (show g ≠ go17 from by have h_ := IsS139.own_ne HI0.out HO_196000.out (by decide); intro e_; exact h_ (by rw [e_]; rfl))
      have HP20 := Kd.R_putn HO_196000.out (x21_1 : Int) t196
      rw [← Ny199.out] at HP20
      have HQ20 := am HP20
      clear HP20
      refine hK.out _ _ ⟨(kce BK195.out 0).trans rfl, (kce BK195.out 1).trans rfl⟩ (fun hHeld => ?_)
      clear hK K
      refine norm_ (a' := ?_) ?_ ?_
      rotate_left
      ·show Act.put _ (some 28) _ = _
       simp only [Act.put, sit, scz, scs, i64_w, i32_w]
       rfl
      refine pure_ (i := 5) (N := some 29) (v := ?_) (a' := ?_) #[true, true, true, true, true, true, false] rfl rfl (by kernel_rfl) (fun _ _ _ h => h) (Or.inl ⟨by rfl, ?_⟩) ?_ ?_
      rotate_left
      ·intro w'
       go_simp
       with_reducible rfl
      rotate_left
      ·simp only [Act.put, sit, scz, scs, i64_w, i32_w]
       rfl
      refine last_ (i := 6) (N := none) #[true, true, true, true, true, true, true] rfl rfl (by kernel_rfl) (by decide) (fun K hK => ?_)
      refine skip_ (w1 := ?_) (by rfl) rfl ?_ ?_
      rotate_left
      ·go_simp
       rfl
      refine hK.out _ _ ?_
      clear hK K
      refine done_ (by kernel_rfl) ?_
      try go_wp2
      go_roundg k1
      case measure => have := HK1.out; omega
      case rel => exact ⟨(wrap64 (x21_1 + 1)), (t197), (t198), (y199), (.slice (some ⟨go17, 0, none⟩) x196000_1.length co17), (by first | rfl | (simp; done) | (simp [*]; done)), H', ⟨by have := HK1.out; omega⟩, ⟨by (with_reducible repeat (first | apply kra | apply krn | apply krd)); exact HQ20.out⟩, ⟨by (with_reducible repeat (first | apply kra | apply krn | apply krd)); exact Kd.R_mono (kfa (p := ⟨go17, (x21_1 : Int).toNat, none⟩) (Kd.R_types HO_196001.out GG17.out (by decide)) (fun _ hk => hk.2) (.string t196)) (fun _ hk => trivial)⟩, ⟨by (with_reducible repeat (first | apply kdn | apply kdr | apply kal)); refine blk_far ?_ (by have h_ := Kd.R_ne HO_196000.out BK184.out (by decide); intro e_; exact h_ (by rw [e_]; rfl)) _; (with_reducible repeat (first | apply kdn | apply kdr | apply kal)); exact BK184.out⟩, ⟨by (with_reducible repeat (first | apply kdn | apply kdr | apply kal)); refine blk_far ?_ (by have h_ := Kd.R_ne HO_196000.out BK195.out (by decide); intro e_; exact h_ (by rw [e_]; rfl)) _; (with_reducible repeat (first | apply kdn | apply kdr | apply kal)); exact BK195.out⟩, ⟨by repeat (first | (with_reducible first | exact HI0.out | apply IsS139.alloc | apply IsS139.drewN | apply IsS139.drew | apply IsS139.set_1 | apply IsS139.set_2 | refine IsS139.far ?_ HN0_go17.out _ | refine IsS139.far ?_ NB0_184.out _ | refine IsS139.far ?_ NB0_195.out _) | exact HI0.out)⟩, ⟨by repeat (first | (with_reducible first | exact HK.out | apply KeepBut.set_ | apply keep_drewN | apply keep_drew | apply keep_alloc | refine keep_far ?_ GB17.out _ | refine keep_far ?_ GW184.out _ | refine keep_far ?_ GW195.out _) | exact HK.out)⟩, ⟨by repeat (first | (with_reducible first | exact HB.out | apply bal | apply pdn | apply bd1 | refine bst ?_ (Nat.le_trans HL.out GB17.out) | refine bst ?_ (IsS139.ge HI0.out) | refine bst ?_ GE184.out | refine bst ?_ GE195.out) | exact HB.out)⟩⟩
     ·rw [if_neg c16] at H
      exact absurd H (by simp)
    ·rw [if_neg c15] at H
     exact absurd H (by simp)
   ·rw [if_neg c13] at H
    have c13b0 : decide (x21_1 < (t188.length : Int)) = false := decide_eq_false c13
    clear c13
    replace H := Option.bind_eq_some_iff.mp H
    obtain ⟨⟨t200, t201, t202⟩, A210, H⟩ := H
    replace H : (spec_l14Disk.l1 k1 (t188.length : Int) t200 s0_0 t201 t202 x196000_1 t191) = some (r1, r2, r3, r4) := H
    have A21 := am A210
    clear A210
    have H' := am H
    clear H
    go_wp2_with (first | ((with_reducible refine gate_callee (f := 82) rfl ?_); refine goesL_ (some 32) rfl rfl Try.func82 (by kernel_rfl) rfl #[.pointer (some ⟨g, 0, none⟩), .int .i64 5] rfl (by (try simp only [mta, mco, mni]); first | done | rfl | (simp only [lnd, lnt]; rfl)) ?_; (with_reducible refine (spec_l00Src_pick.calls g s0_0 x1001_1 x1002_1 5 t200 t201 t202 w0 _ ?side1 ?side2 A21.out).mono ?_); (case side1 => repeat (first | (with_reducible first | exact HI0.out | apply IsS139.alloc | apply IsS139.drewN | apply IsS139.drew | apply IsS139.set_1 | apply IsS139.set_2 | refine IsS139.far ?_ NB0_184.out _ | refine IsS139.far ?_ NB0_195.out _) | exact HI0.out)); (case side2 => repeat (first | (with_reducible first | exact HB.out | apply bal | apply pdn | apply bd1 | refine bst ?_ (IsS139.ge HI0.out) | refine bst ?_ GE184.out | refine bst ?_ GE195.out) | exact HB.out)); rintro e w22 ⟨rfl, hi, hb, hk⟩; refine ⟨_, rfl, ?_⟩; have n0_ := am (Kd.R_mono (Kd.R_keep (IsS139.apart (show IsS139 w0 _ g s0_0 x1001_1 x1002_1 from by repeat (first | (with_reducible first | exact HI0.out | apply IsS139.alloc | apply IsS139.drewN | apply IsS139.drew | apply IsS139.set_1 | apply IsS139.set_2 | refine IsS139.far ?_ NB0_184.out _ | refine IsS139.far ?_ NB0_195.out _) | exact HI0.out)) (by (with_reducible repeat (first | apply kra | apply krn | apply krd)); exact HO_196000.out) (by decide)) hk (fun _ h => h.2)) (fun _ h => h.1)); have n1_ := am (Kd.R_mono (Kd.R_keep (IsS139.apart (show IsS139 w0 _ g s0_0 x1001_1 x1002_1 from by repeat (first | (with_reducible first | exact HI0.out | apply IsS139.alloc | apply IsS139.drewN | apply IsS139.drew | apply IsS139.set_1 | apply IsS139.set_2 | refine IsS139.far ?_ NB0_184.out _ | refine IsS139.far ?_ NB0_195.out _) | exact HI0.out)) (by (with_reducible repeat (first | apply kra | apply krn | apply krd)); exact HO_196001.out) (by decide)) hk (fun _ h => h.2)) (fun _ h => h.1)); have n2_ := am (KeepBut.blk hk (g' := gb184) (o := .cells #[.slice none 0 0, .slice none 0 0] 30 (0, 0)) (by (with_reducible repeat (first | apply kdn | apply kdr | apply kal)); exact BK184.out) NB184_0.out (by simp)); have n3_ := am (KeepBut.blk hk (g' := gb195) (o := .cells #[u196000, .slice Ao12 t191.length co12] 30 (0, 0)) (by (with_reducible repeat (first | apply kdn | apply kdr | apply kal)); exact BK195.out) NB195_0.out (by simp)); have n4_ := am (KeepBut.trans (by repeat (first | (with_reducible first | exact HK.out | apply KeepBut.set_ | apply keep_drewN | apply keep_drew | apply keep_alloc | refine keep_far ?_ GW184.out _ | refine keep_far ?_ GW195.out _) | exact HK.out)) hk (.inl rfl)); have n5_ := am (hb); have n6_ := am (hi); clear HO_196000; clear HO_196001; clear BK184; clear BK195; clear HK; clear HB; clear HI0; have HO_196000 := n0_; have HO_196001 := n1_; have BK184 := n2_; have BK195 := n3_; have HK := n4_; have HB := n5_; have HI0 := n6_; clear n0_ n1_ n2_ n3_ n4_ n5_ n6_; (try clear hb); (try clear hb2); (try clear hk); (try clear hi)))
    go_loopg [7] k1 (fun kq v7 w' => ∃ (x7_2 : Int) (x1001_2 : Int) (x1002_2 : Int) (x196001_2 : List (S55)) (u196001 : Value), v7 = .int .i64 x7_2 ∧ Aside0 (spec_l14Disk.l1 kq (t188.length : Int) x7_2 s0_0 x1001_2 x1002_2 x196000_1 x196001_2 = some (r1, r2, r3, r4)) ∧ Aside0 (kq ≤ k1) ∧ Aside0 (Kd.R Kd.string 9 w' w.heap.size (fun _ => True) u196000 x196000_1) ∧ Aside0 (Kd.R k55 55 w' w.heap.size (fun _ => True) u196001 x196001_2) ∧ Aside0 (w'.heap[gb184]? = some (.cells #[(.slice none 0 0), (.slice none 0 0)] 30 (0, 0))) ∧ Aside0 (w'.heap[gb195]? = some (.cells #[u196000, u196001] 30 (0, 0))) ∧ Aside0 (IsS139 w0 w' g s0_0 x1001_2 x1002_2) ∧ Aside0 (KeepBut w w' g none) ∧ Aside0 (Below w0.heap.size w0 w'))
    case atStart => exact ⟨(t200), (t201), (t202), (t191), (.slice Ao12 t191.length co12), (by first | rfl | (simp; done) | (simp [*]; done)), H', ⟨Nat.le_refl _⟩, ⟨by (with_reducible repeat (first | apply kra | apply krn | apply krd)); exact HO_196000.out⟩, ⟨by (with_reducible repeat (first | apply kra | apply krn | apply krd)); exact HO_196001.out⟩, ⟨by (with_reducible repeat (first | apply kdn | apply kdr | apply kal)); exact BK184.out⟩, ⟨by (with_reducible repeat (first | apply kdn | apply kdr | apply kal)); exact BK195.out⟩, ⟨by repeat (first | (with_reducible first | exact HI0.out | apply IsS139.alloc | apply IsS139.drewN | apply IsS139.drew | apply IsS139.set_1 | apply IsS139.set_2 | refine IsS139.far ?_ NB0_184.out _ | refine IsS139.far ?_ NB0_195.out _) | exact HI0.out)⟩, ⟨by repeat (first | (with_reducible first | exact HK.out | apply KeepBut.set_ | apply keep_drewN | apply keep_drew | apply keep_alloc | refine keep_far ?_ GW184.out _ | refine keep_far ?_ GW195.out _) | exact HK.out)⟩, ⟨by repeat (first | (with_reducible first | exact HB.out | apply bal | apply pdn | apply bd1 | refine bst ?_ (IsS139.ge HI0.out) | refine bst ?_ GE184.out | refine bst ?_ GE195.out) | exact HB.out)⟩⟩
    case round =>
     clear H'
     obtain ⟨x7_2, x1001_2, x1002_2, x196001_2, u196001, rfl, HA, HK2, HO_196000, HO_196001, BK184, BK195, HI0, HK, HB⟩ := hrel
     cases gk with
     | zero => exact absurd HA.out (by simp [spec_l14Disk.l1])
     | succ k2 =>
      have H := HA.out
      clear HA
      simp only [spec_l14Disk.l1] at H
      by_cases c23 : x7_2 > 0
      ·rw [if_pos c23] at H
       have c23b0 : decide (0 < x7_2) = true := decide_eq_true c23
       clear c23
       replace H := Option.bind_eq_some_iff.mp H
       obtain ⟨⟨t203, t204, t205⟩, A240, H⟩ := H
       replace H : ((spec_l14Sector.f k2 s0_0 t204 t205).bind fun bt206 => (if x196001_2.length < 5864062014805 then (spec_l14Disk.l1 k2 (t188.length : Int) (wrap64 (x7_2 - 1)) s0_0 bt206.2.1 bt206.2.2 x196000_1 (x196001_2 ++ [(⟨t203, bt206.1⟩ : S55)])) else (none))) = some (r1, r2, r3, r4) := H
       have A24 := am A240
       clear A240
       replace H := Option.bind_eq_some_iff.mp H
       obtain ⟨⟨t206, t207, t208⟩, A250, H⟩ := H
       replace H : (if x196001_2.length < 5864062014805 then (spec_l14Disk.l1 k2 (t188.length : Int) (wrap64 (x7_2 - 1)) s0_0 t207 t208 x196000_1 (x196001_2 ++ [(⟨t203, t206⟩ : S55)])) else (none)) = some (r1, r2, r3, r4) := H
       have A25 := am A250
       clear A250
       by_cases c26 : x196001_2.length < 5864062014805
       ·rw [if_pos c26] at H
        have LMc26 := am c26
        clear c26
        obtain ⟨y209, hy209⟩ : ∃ y_ : List (S55), y_ = (x196001_2 ++ [(⟨t203, t206⟩ : S55)]) := ⟨_, rfl⟩
        replace H : (spec_l14Disk.l1 k2 (t188.length : Int) (wrap64 (x7_2 - 1)) s0_0 t207 t208 x196000_1 y209) = some (r1, r2, r3, r4) := by first | (rw [hy209]; with_reducible exact H) | (have H2_ := (Option.bind_some _ _).symm.trans H; rw [hy209]; with_reducible exact H2_) | (have H2_ := (Option.bind_some _ _).symm.trans H; with_reducible exact H2_) | with_reducible exact H | (rw [hy209]; exact H) | exact H
        have Ny209 := am hy209
        clear hy209
        have H' := am H
        clear H
        try go_wp2
        have n0_ := am (krd HO_196000.out)
        have n1_ := am (krd HO_196001.out)
        have n2_ := am (kdr BK184.out)
        have n3_ := am (kdr BK195.out)
        have n4_ := am (IsS139.drew HI0.out)
        have n5_ := am (keep_drew HK.out)
        have n6_ := am (bd1 HB.out)
        clear HO_196000
        clear HO_196001
        clear BK184
        clear BK195
        clear HI0
        clear HK
        clear HB
        have HO_196000 := n0_
        have HO_196001 := n1_
        have BK184 := n2_
        have BK195 := n3_
        have HI0 := n4_
        have HK := n5_
        have HB := n6_
        clear n0_ n1_ n2_ n3_ n4_ n5_ n6_
        refine start_ (n := 12) (S := fun w' => w'.cell? ⟨gb195, 0, none⟩ = some (u196000) ∧ w'.cell? ⟨gb195, 1, none⟩ = some (u196001)) (ds := [11]) #[false, false, false, false, false, false, false, false, false, false, false, false] (by kernel_rfl) rfl rfl ⟨(kce BK195.out 0).trans rfl, (kce BK195.out 1).trans rfl⟩ (fun hHeld => ?_); refine with_tabW spec_l14Disk.tab11 spec_l14Disk.bits11 (fun HT_ HW_ => ?_)
        generalize wr.drew = w27 at HO_196000 HO_196001 BK184 BK195 HI0 HK HB hHeld ⊢
        refine pure_ (i := 0) (N := some 37) (v := ?_) (a' := ?_) #[true, false, false, false, false, false, false, false, false, false, false, false] rfl rfl (any_of HT_.out (by kernel_rfl)) (fun _ _ _ h => h) (Or.inl ⟨by rfl, ?_⟩) ?_ ?_
        rotate_left
        ·intro w'
         go_simp
         with_reducible rfl
        rotate_left
        ·simp only [Act.put, sit, scz, scs, i64_w, i32_w]
         rfl
        refine pure_ (i := 2) (N := some 39) (v := ?_) (a' := ?_) #[true, false, true, false, false, false, false, false, false, false, false, false] rfl rfl (any_of HT_.out (by kernel_rfl)) (fun _ _ _ h => h) (Or.inl ⟨by rfl, ?_⟩) ?_ ?_
        rotate_left
        ·intro w'
         go_simp
         with_reducible rfl
        rotate_left
        ·simp only [Act.put, sit, scz, scs, i64_w, i32_w]
         rfl
        refine pure_ (i := 3) (N := some 40) (v := ?_) (a' := ?_) #[true, false, true, true, false, false, false, false, false, false, false, false] rfl rfl (any_of HT_.out (by kernel_rfl)) (fun _ _ _ h => h) (Or.inl ⟨by rfl, ?_⟩) ?_ ?_
        rotate_left
        ·intro w'
         go_simp
         with_reducible rfl
        rotate_left
        ·simp only [Act.put, sit, scz, scs, i64_w, i32_w]
         rfl
        refine pure_ (i := 5) (N := some 42) (v := ?_) (a' := ?_) #[true, false, true, true, false, true, false, false, false, false, false, false] rfl rfl (any_of HT_.out (by kernel_rfl)) (fun _ _ _ h => h) (Or.inl ⟨by rfl, ?_⟩) ?_ ?_
        rotate_left
        ·intro w'
         go_simp
         with_reducible rfl
        rotate_left
        ·simp only [Act.put, sit, scz, scs, i64_w, i32_w]
         rfl
        refine take_ (i := 1) (N := some 38) (v := ?_) (a' := ?_) #[true, true, true, true, false, true, false, false, false, false, false, false] rfl rfl (take_ofW HT_.out HW_.out (by kernel_rfl)) (fun _ _ _ h => h) (Or.inl ⟨by rfl, ?_⟩) hHeld ?_ ?_
        rotate_left
        ·rintro w' ⟨s0, s1⟩
         go_simp
         with_reducible rfl
        rotate_left
        ·simp only [Act.put, sit, scz, scs, i64_w, i32_w]
         rfl
        refine one_ (i := 4) (N := some 41) #[true, true, true, true, true, true, false, false, false, false, false, false] rfl rfl (one_of HT_.out (by kernel_rfl)) (by decide) (fun K hK => ?_)
        refine goes_ Try.func82 (by kernel_rfl) rfl #[.pointer (some ⟨g, 0, none⟩), .int .i64 (t188.length : Int)] (by rfl) rfl rfl (by (try simp only [mta, mco, mni]); first | done | rfl | (simp only [lnd, lnt]; rfl)) ?_
        with_reducible refine (spec_l00Src_pick.calls g s0_0 x1001_2 x1002_2 (t188.length : Int) t203 t204 t205 w0 _ ?side1 ?side2 A24.out).mono ?_
        (case side1 => repeat (first | (with_reducible first | exact HI0.out | apply IsS139.alloc | apply IsS139.drewN | apply IsS139.drew | apply IsS139.set_1 | apply IsS139.set_2 | refine IsS139.far ?_ NB0_184.out _ | refine IsS139.far ?_ NB0_195.out _) | exact HI0.out))
        (case side2 => repeat (first | (with_reducible first | exact HB.out | apply bal | apply pdn | apply bd1 | refine bst ?_ (IsS139.ge HI0.out) | refine bst ?_ GE184.out | refine bst ?_ GE195.out) | exact HB.out))
        rintro e w28 ⟨rfl, hi, hb, hk⟩
        refine ⟨_, rfl, ?_⟩
        have n0_ := am (Kd.R_mono (Kd.R_keep (IsS139.apart (show IsS139 w0 _ g s0_0 x1001_2 x1002_2 from by repeat (first | (with_reducible first | exact HI0.out | apply IsS139.alloc | apply IsS139.drewN | apply IsS139.drew | apply IsS139.set_1 | apply IsS139.set_2 | refine IsS139.far ?_ NB0_184.out _ | refine IsS139.far ?_ NB0_195.out _) | exact HI0.out)) (by (with_reducible repeat (first | apply kra | apply krn | apply krd)); exact HO_196000.out) (by decide)) hk (fun _ h => h.2)) (fun _ h => h.1))
        have n1_ := am (Kd.R_mono (Kd.R_keep (IsS139.apart (show IsS139 w0 _ g s0_0 x1001_2 x1002_2 from by repeat (first | (with_reducible first | exact HI0.out | apply IsS139.alloc | apply IsS139.drewN | apply IsS139.drew | apply IsS139.set_1 | apply IsS139.set_2 | refine IsS139.far ?_ NB0_184.out _ | refine IsS139.far ?_ NB0_195.out _) | exact HI0.out)) (by (with_reducible repeat (first | apply kra | apply krn | apply krd)); exact HO_196001.out) (by decide)) hk (fun _ h => h.2)) (fun _ h => h.1))
        have n2_ := am (KeepBut.blk hk (g' := gb184) (o := .cells #[.slice none 0 0, .slice none 0 0] 30 (0, 0)) (by (with_reducible repeat (first | apply kdn | apply kdr | apply kal)); exact BK184.out) NB184_0.out (by simp))
        have n3_ := am (KeepBut.blk hk (g' := gb195) (o := .cells #[u196000, u196001] 30 (0, 0)) (by (with_reducible repeat (first | apply kdn | apply kdr | apply kal)); exact BK195.out) NB195_0.out (by simp))
        have n4_ := am (KeepBut.trans (by repeat (first | (with_reducible first | exact HK.out | apply KeepBut.set_ | apply keep_drewN | apply keep_drew | apply keep_alloc | refine keep_far ?_ GW184.out _ | refine keep_far ?_ GW195.out _) | exact HK.out)) hk (.inl rfl))
        have n5_ := am (hb)
        have n6_ := am (hi)
        clear HO_196000
        clear HO_196001
        clear BK184
        clear BK195
        clear HK
        clear HB
        clear HI0
        have HO_196000 := n0_
        have HO_196001 := n1_
        have BK184 := n2_
        have BK195 := n3_
        have HK := n4_
        have HB := n5_
        have HI0 := n6_
        clear n0_ n1_ n2_ n3_ n4_ n5_ n6_
        refine hK.out _ _ ⟨(kce BK195.out 0).trans rfl, (kce BK195.out 1).trans rfl⟩ (fun hHeld => ?_)
        clear hK K
        refine norm_ (a' := ?_) ?_ ?_
        rotate_left
        ·show Act.put _ (some 41) _ = _
         simp only [Act.put, sit, scz, scs, i64_w, i32_w]
         rfl
        refine one_ (i := 6) (N := some 43) #[true, true, true, true, true, true, true, false, false, false, false, false] rfl rfl (one_of HT_.out (by kernel_rfl)) (by decide) (fun K hK => ?_)
        refine goes_ Try.func113 (by kernel_rfl) rfl #[.pointer (some ⟨g, 0, none⟩)] (by rfl) rfl rfl (by (try simp only [mta, mco, mni]); first | done | rfl | (simp only [lnd, lnt]; rfl)) ?_
        with_reducible refine (spec_l14Sector.calls k2 g s0_0 t204 t205 t206 t207 t208 w0 _ ?side1 ?side2 A25.out).mono ?_
        (case side1 => repeat (first | (with_reducible first | exact HI0.out | apply IsS139.alloc | apply IsS139.drewN | apply IsS139.drew | apply IsS139.set_1 | apply IsS139.set_2 | refine IsS139.far ?_ NB0_184.out _ | refine IsS139.far ?_ NB0_195.out _) | exact HI0.out))
        (case side2 => repeat (first | (with_reducible first | exact HB.out | apply bal | apply pdn | apply bd1 | refine bst ?_ (IsS139.ge HI0.out) | refine bst ?_ GE184.out | refine bst ?_ GE195.out) | exact HB.out))
        rintro e w29 ⟨rfl, hi, hb, hk⟩
        refine ⟨_, rfl, ?_⟩
        have n0_ := am (Kd.R_mono (Kd.R_keep (IsS139.apart (show IsS139 w0 _ g s0_0 t204 t205 from by repeat (first | (with_reducible first | exact HI0.out | apply IsS139.alloc | apply IsS139.drewN | apply IsS139.drew | apply IsS139.set_1 | apply IsS139.set_2 | refine IsS139.far ?_ NB0_184.out _ | refine IsS139.far ?_ NB0_195.out _) | exact HI0.out)) (by (with_reducible repeat (first | apply kra | apply krn | apply krd)); exact HO_196000.out) (by decide)) hk (fun _ h => h.2)) (fun _ h => h.1))
        have n1_ := am (Kd.R_mono (Kd.R_keep (IsS139.apart (show IsS139 w0 _ g s0_0 t204 t205 from by repeat (first | (with_reducible first | exact HI0.out | apply IsS139.alloc | apply IsS139.drewN | apply IsS139.drew | apply IsS139.set_1 | apply IsS139.set_2 | refine IsS139.far ?_ NB0_184.out _ | refine IsS139.far ?_ NB0_195.out _) | exact HI0.out)) (by (with_reducible repeat (first | apply kra | apply krn | apply krd)); exact HO_196001.out) (by decide)) hk (fun _ h => h.2)) (fun _ h => h.1))
        have n2_ := am (KeepBut.blk hk (g' := gb184) (o := .cells #[.slice none 0 0, .slice none 0 0] 30 (0, 0)) (by (with_reducible repeat (first | apply kdn | apply kdr | apply kal)); exact BK184.out) NB184_0.out (by simp))
        have n3_ := am (KeepBut.blk hk (g' := gb195) (o := .cells #[u196000, u196001] 30 (0, 0)) (by (with_reducible repeat (first | apply kdn | apply kdr | apply kal)); exact BK195.out) NB195_0.out (by simp))
        have n4_ := am (KeepBut.trans (by repeat (first | (with_reducible first | exact HK.out | apply KeepBut.set_ | apply keep_drewN | apply keep_drew | apply keep_alloc | refine keep_far ?_ GW184.out _ | refine keep_far ?_ GW195.out _) | exact HK.out)) hk (.inl rfl))
        have n5_ := am (hb)
        have n6_ := am (hi)
        clear HO_196000
        clear HO_196001
        clear BK184
        clear BK195
        clear HK
        clear HB
        clear HI0
        have HO_196000 := n0_
        have HO_196001 := n1_
        have BK184 := n2_
        have BK195 := n3_
        have HK := n4_
        have HB := n5_
        have HI0 := n6_
        clear n0_ n1_ n2_ n3_ n4_ n5_ n6_
        refine hK.out _ _ ⟨(kce BK195.out 0).trans rfl, (kce BK195.out 1).trans rfl⟩ (fun hHeld => ?_)
        clear hK K
        refine norm_ (a' := ?_) ?_ ?_
        rotate_left
        ·show Act.put _ (some 43) _ = _
         simp only [Act.put, sit, scz, scs, i64_w, i32_w]
         rfl
        refine pure_ (i := 7) (N := some 44) (v := ?_) (a' := ?_) #[true, true, true, true, true, true, true, true, false, false, false, false] rfl rfl (any_of HT_.out (by kernel_rfl)) (fun _ _ _ h => h) (Or.inl ⟨by rfl, ?_⟩) ?_ ?_
        rotate_left
        ·intro w'
         go_simp
         with_reducible rfl
        rotate_left
        ·simp only [Act.put, sit, scz, scs, i64_w, i32_w]
         rfl
        refine one_ (i := 8) (N := some 45) #[true, true, true, true, true, true, true, true, true, false, false, false] rfl rfl (one_of HT_.out (by kernel_rfl)) (by decide) (fun K hK => ?_)
        refine value_ (w1 := ?_) (v := ?_) (by rfl) rfl ?_ ?_
        rotate_left 2
        ·go_simp
         constructor
         ·rfl
         ·rfl
        refine hK.out _ _ ⟨(kce (kal BK195.out _) 0).trans rfl, (kce (kal BK195.out _) 1).trans rfl⟩ (fun hHeld => ?_)
        clear hK K
        refine norm_ (a' := ?_) ?_ ?_
        rotate_left
        ·show Act.put _ (some 45) _ = _
         simp only [Act.put, sit, scz, scs, i64_w, i32_w]
         rfl
        refine one_ (i := 9) (N := some 46) #[true, true, true, true, true, true, true, true, true, true, false, false] rfl rfl (one_of HT_.out (by kernel_rfl)) (by decide) (fun K hK => ?_)
        refine Kd.R_append_step k55 w.heap.size (by rfl) (.tmp 38) (.tmp 45) 28 55 (.agg #[(.int .i64 0), (.string ⟨#[]⟩)]) 24 rfl Try.underlying28 info55 rfl (by decide) (by omega) u196001 x196001_2 (⟨t203, t206⟩ : S55) [.int .i64 t203, .string t206] (fun _ => True) (fun _ => False) rfl rfl ?aP (fun _ hk => hk.elim) ?aF ?aO (Below.refl _ _) ?aS ?aL ?_
        (case aP => exact k55_mkM _ _ _ (⟨t203, t206⟩ : S55))
        (case aF => exact (fun _ _ => trivial))
        (case aO => exact (by (with_reducible repeat (first | apply kra | apply krn | apply krd)); exact HO_196001.out))
        (case aS => exact (keep_size (w := w) (g := g) (row := none) (by repeat (first | (with_reducible first | exact HK.out | apply KeepBut.set_ | apply keep_drewN | apply keep_drew | apply keep_alloc | refine keep_far ?_ GW184.out _ | refine keep_far ?_ GW195.out _) | exact HK.out))))
        (case aL => have := LMc26.out; omega)
        intro v210 w30 ho hb hg hat
        rw [← Ny209.out] at ho
        have n0_ := am (Kd.R_over' (by (with_reducible repeat (first | apply kra | apply krn | apply krd)); exact HO_196000.out) (Kd.R_typed (by (with_reducible repeat (first | apply kra | apply krn | apply krd)); exact HO_196001.out)) (by decide) hg)
        have n1_ := am (blk_grown (g := gb184) (o := .cells #[.slice none 0 0, .slice none 0 0] 30 (0, 0)) (by (with_reducible repeat (first | apply kdn | apply kdr | apply kal)); exact BK184.out) hg (Kd.R_ne HO_196001.out BK184.out (by decide)))
        have n2_ := am (blk_grown (g := gb195) (o := .cells #[u196000, u196001] 30 (0, 0)) (by (with_reducible repeat (first | apply kdn | apply kdr | apply kal)); exact BK195.out) hg (Kd.R_ne HO_196001.out BK195.out (by decide)))
        have n3_ := am (IsS139.grown (by repeat (first | (with_reducible first | exact HI0.out | apply IsS139.alloc | apply IsS139.drewN | apply IsS139.drew | apply IsS139.set_1 | apply IsS139.set_2 | refine IsS139.far ?_ NB0_184.out _ | refine IsS139.far ?_ NB0_195.out _) | exact HI0.out)) hg (IsS139.own_ne HI0.out HO_196001.out (by decide)))
        have n4_ := am (below_weaken (by repeat (first | (with_reducible first | exact HB.out | apply bal | apply pdn | apply bd1 | refine bst ?_ (IsS139.ge HI0.out) | refine bst ?_ GE184.out | refine bst ?_ GE195.out) | exact HB.out)) HL.out hb)
        have n5_ := am (KeepBut.trans (by repeat (first | (with_reducible first | exact HK.out | apply KeepBut.set_ | apply keep_drewN | apply keep_drew | apply keep_alloc | refine keep_far ?_ GW184.out _ | refine keep_far ?_ GW195.out _) | exact HK.out)) (KeepBut.of_grown hg g) (Kd.R_base2 HO_196001.out))
        have n6_ := am (ho)
        clear HO_196000
        clear BK184
        clear BK195
        clear HI0
        clear HB
        clear HK
        clear HO_196001
        have HO_196000 := n0_
        have BK184 := n1_
        have BK195 := n2_
        have HI0 := n3_
        have HB := n4_
        have HK := n5_
        have HO211 := n6_
        clear n0_ n1_ n2_ n3_ n4_ n5_ n6_
        clear ho hb hg hat
        obtain ⟨Ao31, co31, eo31⟩ := Kd.R_slice HO211.out
        (first | subst eo31 | (injection eo31 with f1_ f2_ f3_; have f4_ := f1_.symm; have f5_ := f3_.symm; clear f1_ f2_ f3_; subst f4_; subst f5_))
        refine hK.out _ _ ⟨(kce BK195.out 0).trans rfl, (kce BK195.out 1).trans rfl⟩ (fun hHeld => ?_)
        clear hK K
        refine norm_ (a' := ?_) ?_ ?_
        rotate_left
        ·show Act.put _ (some 46) _ = _
         simp only [Act.put, sit, scz, scs, i64_w, i32_w]
         rfl
        refine pure_ (i := 10) (N := some 47) (v := ?_) (a' := ?_) #[true, true, true, true, true, true, true, true, true, true, true, false] rfl rfl (any_of HT_.out (by kernel_rfl)) (fun _ _ _ h => h) (Or.inl ⟨by rfl, ?_⟩) ?_ ?_
        rotate_left
        ·intro w'
         go_simp
         with_reducible rfl
        rotate_left
        ·simp only [Act.put, sit, scz, scs, i64_w, i32_w]
         rfl
        refine last_ (i := 11) (N := none) #[true, true, true, true, true, true, true, true, true, true, true, true] rfl rfl (one_of HT_.out (by kernel_rfl)) (by decide) (fun K hK => ?_)
        have hs32 : w30.cell? ⟨gb195, 1, none⟩ = some (u196001) := (kce BK195.out 1).trans rfl
        have hfs32 := kfr BK195.out 1
        have hns32_0 := NB184_195.out
        have hms32_0 := NB195_184.out
        refine skip_ (w1 := ?_) (by rfl) rfl ?_ ?_
        rotate_left
        ·go_simp
         rfl
        refine hK.out _ _ ?_
        clear hK K
        refine done_ (done_of HT_.out (by kernel_rfl)) ?_
        try go_wp2
        go_roundg k2
        case measure => have := HK1.out; have := HK2.out; omega
        case rel => exact ⟨(wrap64 (x7_2 - 1)), (t207), (t208), (y209), (.slice Ao31 y209.length co31), (by first | rfl | (simp; done) | (simp [*]; done)), H', ⟨by have := HK1.out; have := HK2.out; omega⟩, ⟨by (with_reducible repeat (first | apply kra | apply krn | apply krd)); exact Kd.R_mono (kfa (p := ⟨gb195, 1, none⟩) (Kd.R_types HO_196000.out BK195.out (by decide)) (fun _ hk => hk.2) (.slice Ao31 y209.length co31)) (fun _ hk => trivial)⟩, ⟨by (with_reducible repeat (first | apply kra | apply krn | apply krd)); exact Kd.R_mono (kfa (p := ⟨gb195, 1, none⟩) (Kd.R_types HO211.out BK195.out (by decide)) (fun _ hk => hk.2) (.slice Ao31 y209.length co31)) (fun _ hk => trivial)⟩, ⟨by (with_reducible repeat (first | apply kdn | apply kdr | apply kal)); refine blk_far ?_ NB184_195.out _; (with_reducible repeat (first | apply kdn | apply kdr | apply kal)); exact BK184.out⟩, ⟨by (with_reducible repeat (first | apply kdn | apply kdr | apply kal)); refine blk_put (cs := #[u196000, u196001]) ?_ 1 _ rfl; (with_reducible repeat (first | apply kdn | apply kdr | apply kal)); exact BK195.out⟩, ⟨by repeat (first | (with_reducible first | exact HI0.out | apply IsS139.alloc | apply IsS139.drewN | apply IsS139.drew | apply IsS139.set_1 | apply IsS139.set_2 | refine IsS139.far ?_ NB0_184.out _ | refine IsS139.far ?_ NB0_195.out _) | exact HI0.out)⟩, ⟨by repeat (first | (with_reducible first | exact HK.out | apply KeepBut.set_ | apply keep_drewN | apply keep_drew | apply keep_alloc | refine keep_far ?_ GW184.out _ | refine keep_far ?_ GW195.out _) | exact HK.out)⟩, ⟨by repeat (first | (with_reducible first | exact HB.out | apply bal | apply pdn | apply bd1 | refine bst ?_ (IsS139.ge HI0.out) | refine bst ?_ GE184.out | refine bst ?_ GE195.out) | exact HB.out)⟩⟩
       ·rw [if_neg c26] at H
        exact absurd H (by simp)
      ·rw [if_neg c23] at H
       have c23b0 : decide (0 < x7_2) = false := decide_eq_false c23
       clear c23
       replace H := Option.bind_eq_some_iff.mp H
       obtain ⟨⟨t212, t213, t214⟩, A330, H⟩ := H
       replace H : (if t212 = 0 then ((spec_l00Src_pick.f s0_0 t213 t214 7).bind fun bt215 => ((spec_l14Sector.f k2 s0_0 bt215.2.1 bt215.2.2).bind fun bt218 => ((spec_l00Src_pick.f s0_0 bt218.2.1 bt218.2.2 2).bind fun bt221 => (if 0 ≤ bt221.1 then (if bt221.1 ≤ (bt218.1.size : Int) then (if x196001_2.length < 5864062014805 then (some (x196000_1, (x196001_2 ++ [(⟨wrap64 (bt215.1 - 1), bt218.1.extract (bt221.1 : Int).toNat bt218.1.size⟩ : S55)]), bt221.2.1, bt221.2.2)) else (none)) else (none)) else (none))))) else (if t212 = 1 then (if 0 < (x196000_1.length : Int) then (if 1 ≤ ((rdOf ByteArray.empty x196000_1 0).size : Int) then (some ((x196000_1.set (0 : Int).toNat ((rdOf ByteArray.empty x196000_1 0).extract 1 (rdOf ByteArray.empty x196000_1 0).size)), x196001_2, t213, t214)) else (none)) else (none)) else (if t212 = 2 then (some (([] : List ByteArray), x196001_2, t213, t214)) else (if t212 = 3 then (spec_l14Disk.l2 k2 s0_0 t213 t214 x196000_1 x196001_2) else (some (x196000_1, x196001_2, t213, t214)))))) = some (r1, r2, r3, r4) := H
       have A33 := am A330
       clear A330
       by_cases c34 : t212 = 0
       ·rw [if_pos c34] at H
        have c34b0 : (t212 == 0) = true := beq_iff_eq.mpr c34
        have c34b1 : (t212 != 0) = false := bne_eq_false_iff_eq.mpr c34
        clear c34
        replace H := Option.bind_eq_some_iff.mp H
        obtain ⟨⟨t215, t216, t217⟩, A350, H⟩ := H
        replace H : ((spec_l14Sector.f k2 s0_0 t216 t217).bind fun bt218 => ((spec_l00Src_pick.f s0_0 bt218.2.1 bt218.2.2 2).bind fun bt221 => (if 0 ≤ bt221.1 then (if bt221.1 ≤ (bt218.1.size : Int) then (if x196001_2.length < 5864062014805 then (some (x196000_1, (x196001_2 ++ [(⟨wrap64 (t215 - 1), bt218.1.extract (bt221.1 : Int).toNat bt218.1.size⟩ : S55)]), bt221.2.1, bt221.2.2)) else (none)) else (none)) else (none)))) = some (r1, r2, r3, r4) := H
        have A35 := am A350
        clear A350
        replace H := Option.bind_eq_some_iff.mp H
        obtain ⟨⟨t218, t219, t220⟩, A360, H⟩ := H
        replace H : ((spec_l00Src_pick.f s0_0 t219 t220 2).bind fun bt221 => (if 0 ≤ bt221.1 then (if bt221.1 ≤ (t218.size : Int) then (if x196001_2.length < 5864062014805 then (some (x196000_1, (x196001_2 ++ [(⟨wrap64 (t215 - 1), t218.extract (bt221.1 : Int).toNat t218.size⟩ : S55)]), bt221.2.1, bt221.2.2)) else (none)) else (none)) else (none))) = some (r1, r2, r3, r4) := H
        have A36 := am A360
        clear A360
        replace H := Option.bind_eq_some_iff.mp H
        obtain ⟨⟨t221, t222, t223⟩, A370, H⟩ := H
        replace H : (if 0 ≤ t221 then (if t221 ≤ (t218.size : Int) then (if x196001_2.length < 5864062014805 then (some (x196000_1, (x196001_2 ++ [(⟨wrap64 (t215 - 1), t218.extract (t221 : Int).toNat t218.size⟩ : S55)]), t222, t223)) else (none)) else (none)) else (none)) = some (r1, r2, r3, r4) := H
        have A37 := am A370
        clear A370
        by_cases c38 : 0 ≤ t221
        ·rw [if_pos c38] at H
         have c38b0 := eq_true c38
         have c38b1 : decide (0 ≤ t221) = true := decide_eq_true c38
         clear c38
         by_cases c39 : t221 ≤ (t218.size : Int)
         ·rw [if_pos c39] at H
          have c39b0 := eq_true c39
          have c39b1 : decide (t221 ≤ (t218.size : Int)) = true := decide_eq_true c39
          clear c39
          by_cases c40 : x196001_2.length < 5864062014805
          ·rw [if_pos c40] at H
           have LMc40 := am c40
           clear c40
           obtain ⟨y224, hy224⟩ : ∃ y_ : List (S55), y_ = (x196001_2 ++ [(⟨wrap64 (t215 - 1), t218.extract (t221 : Int).toNat t218.size⟩ : S55)]) := ⟨_, rfl⟩
           replace H : (some (x196000_1, y224, t222, t223)) = some (r1, r2, r3, r4) := by first | (rw [hy224]; with_reducible exact H) | (have H2_ := (Option.bind_some _ _).symm.trans H; rw [hy224]; with_reducible exact H2_) | (have H2_ := (Option.bind_some _ _).symm.trans H; with_reducible exact H2_) | with_reducible exact H | (rw [hy224]; exact H) | exact H
           have Ny224 := am hy224
           clear hy224
           simp only [Option.some.injEq, Prod.mk.injEq] at H
           obtain ⟨rfl, rfl, rfl, rfl⟩ := H
           try go_wp2_with (first | ((with_reducible refine gate_callee (f := 82) rfl ?_); refine goesL_ (some 49) rfl rfl Try.func82 (by kernel_rfl) rfl #[.pointer (some ⟨g, 0, none⟩), .int .i64 20] rfl (by (try simp only [mta, mco, mni]); first | done | rfl | (simp only [lnd, lnt]; rfl)) ?_; (with_reducible refine (spec_l00Src_pick.calls g s0_0 x1001_2 x1002_2 20 t212 t213 t214 w0 _ ?side1 ?side2 A33.out).mono ?_); (case side1 => repeat (first | (with_reducible first | exact HI0.out | apply IsS139.alloc | apply IsS139.drewN | apply IsS139.drew | apply IsS139.set_1 | apply IsS139.set_2 | refine IsS139.far ?_ NB0_184.out _ | refine IsS139.far ?_ NB0_195.out _) | exact HI0.out)); (case side2 => repeat (first | (with_reducible first | exact HB.out | apply bal | apply pdn | apply bd1 | refine bst ?_ (IsS139.ge HI0.out) | refine bst ?_ GE184.out | refine bst ?_ GE195.out) | exact HB.out)); rintro e w41 ⟨rfl, hi, hb, hk⟩; refine ⟨_, rfl, ?_⟩; have n0_ := am (Kd.R_mono (Kd.R_keep (IsS139.apart (show IsS139 w0 _ g s0_0 x1001_2 x1002_2 from by repeat (first | (with_reducible first | exact HI0.out | apply IsS139.alloc | apply IsS139.drewN | apply IsS139.drew | apply IsS139.set_1 | apply IsS139.set_2 | refine IsS139.far ?_ NB0_184.out _ | refine IsS139.far ?_ NB0_195.out _) | exact HI0.out)) (by (with_reducible repeat (first | apply kra | apply krn | apply krd)); exact HO_196000.out) (by decide)) hk (fun _ h => h.2)) (fun _ h => h.1)); have n1_ := am (Kd.R_mono (Kd.R_keep (IsS139.apart (show IsS139 w0 _ g s0_0 x1001_2 x1002_2 from by repeat (first | (with_reducible first | exact HI0.out | apply IsS139.alloc | apply IsS139.drewN | apply IsS139.drew | apply IsS139.set_1 | apply IsS139.set_2 | refine IsS139.far ?_ NB0_184.out _ | refine IsS139.far ?_ NB0_195.out _) | exact HI0.out)) (by (with_reducible repeat (first | apply kra | apply krn | apply krd)); exact HO_196001.out) (by decide)) hk (fun _ h => h.2)) (fun _ h => h.1)); have n2_ := am (KeepBut.blk hk (g' := gb184) (o := .cells #[.slice none 0 0, .slice none 0 0] 30 (0, 0)) (by (with_reducible repeat (first | apply kdn | apply kdr | apply kal)); exact BK184.out) NB184_0.out (by simp)); have n3_ := am (KeepBut.blk hk (g' := gb195) (o := .cells #[u196000, u196001] 30 (0, 0)) (by (with_reducible repeat (first | apply kdn | apply kdr | apply kal)); exact BK195.out) NB195_0.out (by simp)); have n4_ := am (KeepBut.trans (by repeat (first | (with_reducible first | exact HK.out | apply KeepBut.set_ | apply keep_drewN | apply keep_drew | apply keep_alloc | refine keep_far ?_ GW184.out _ | refine keep_far ?_ GW195.out _) | exact HK.out)) hk (.inl rfl)); have n5_ := am (hb); have n6_ := am (hi); clear HO_196000; clear HO_196001; clear BK184; clear BK195; clear HK; clear HB; clear HI0; have HO_196000 := n0_; have HO_196001 := n1_; have BK184 := n2_; have BK195 := n3_; have HK := n4_; have HB := n5_; have HI0 := n6_; clear n0_ n1_ n2_ n3_ n4_ n5_ n6_; (try clear hb); (try clear hb2); (try clear hk); (try clear hi)))
           have n0_ := am (krd HO_196000.out)
           have n1_ := am (krd HO_196001.out)
           have n2_ := am (kdr BK184.out)
           have n3_ := am (kdr BK195.out)
           have n4_ := am (IsS139.drew HI0.out)
           have n5_ := am (keep_drew HK.out)
           have n6_ := am (bd1 HB.out)
           clear HO_196000
           clear HO_196001
           clear BK184
           clear BK195
           clear HI0
           clear HK
           clear HB
           have HO_196000 := n0_
           have HO_196001 := n1_
           have BK184 := n2_
           have BK195 := n3_
           have HI0 := n4_
           have HK := n5_
           have HB := n6_
           clear n0_ n1_ n2_ n3_ n4_ n5_ n6_
           refine start_ (n := 15) (S := fun w' => w'.cell? ⟨gb195, 0, none⟩ = some (u196000) ∧ w'.cell? ⟨gb195, 1, none⟩ = some (u196001)) (ds := [14]) #[false, false, false, false, false, false, false, false, false, false, false, false, false, false, false] (by kernel_rfl) rfl rfl ⟨(kce BK195.out 0).trans rfl, (kce BK195.out 1).trans rfl⟩ (fun hHeld => ?_); refine with_tabW spec_l14Disk.tab14 spec_l14Disk.bits14 (fun HT_ HW_ => ?_)
           generalize w41.drew = w42 at HO_196000 HO_196001 BK184 BK195 HI0 HK HB hHeld ⊢
           refine pure_ (i := 0) (N := some 52) (v := ?_) (a' := ?_) #[true, false, false, false, false, false, false, false, false, false, false, false, false, false, false] rfl rfl (any_of HT_.out (by kernel_rfl)) (fun _ _ _ h => h) (Or.inl ⟨by rfl, ?_⟩) ?_ ?_
           rotate_left
           ·intro w'
            go_simp
            with_reducible rfl
           rotate_left
           ·simp only [Act.put, sit, scz, scs, i64_w, i32_w]
            rfl
           refine pure_ (i := 2) (N := some 54) (v := ?_) (a' := ?_) #[true, false, true, false, false, false, false, false, false, false, false, false, false, false, false] rfl rfl (any_of HT_.out (by kernel_rfl)) (fun _ _ _ h => h) (Or.inl ⟨by rfl, ?_⟩) ?_ ?_
           rotate_left
           ·intro w'
            go_simp
            with_reducible rfl
           rotate_left
           ·simp only [Act.put, sit, scz, scs, i64_w, i32_w]
            rfl
           refine pure_ (i := 5) (N := some 57) (v := ?_) (a' := ?_) #[true, false, true, false, false, true, false, false, false, false, false, false, false, false, false] rfl rfl (any_of HT_.out (by kernel_rfl)) (fun _ _ _ h => h) (Or.inl ⟨by rfl, ?_⟩) ?_ ?_
           rotate_left
           ·intro w'
            go_simp
            with_reducible rfl
           rotate_left
           ·simp only [Act.put, sit, scz, scs, i64_w, i32_w]
            rfl
           refine pure_ (i := 7) (N := some 59) (v := ?_) (a' := ?_) #[true, false, true, false, false, true, false, true, false, false, false, false, false, false, false] rfl rfl (any_of HT_.out (by kernel_rfl)) (fun _ _ _ h => h) (Or.inl ⟨by rfl, ?_⟩) ?_ ?_
           rotate_left
           ·intro w'
            go_simp
            with_reducible rfl
           rotate_left
           ·simp only [Act.put, sit, scz, scs, i64_w, i32_w]
            rfl
           refine take_ (i := 1) (N := some 53) (v := ?_) (a' := ?_) #[true, true, true, false, false, true, false, true, false, false, false, false, false, false, false] rfl rfl (take_ofW HT_.out HW_.out (by kernel_rfl)) (fun _ _ _ h => h) (Or.inl ⟨by rfl, ?_⟩) hHeld ?_ ?_
           rotate_left
           ·rintro w' ⟨s0, s1⟩
            go_simp
            with_reducible rfl
           rotate_left
           ·simp only [Act.put, sit, scz, scs, i64_w, i32_w]
            rfl
           refine one_ (i := 3) (N := some 55) #[true, true, true, true, false, true, false, true, false, false, false, false, false, false, false] rfl rfl (one_of HT_.out (by kernel_rfl)) (by decide) (fun K hK => ?_)
           refine goes_ Try.func82 (by kernel_rfl) rfl #[.pointer (some ⟨g, 0, none⟩), .int .i64 7] (by rfl) rfl rfl (by (try simp only [mta, mco, mni]); first | done | rfl | (simp only [lnd, lnt]; rfl)) ?_
           with_reducible refine (spec_l00Src_pick.calls g s0_0 t213 t214 7 t215 t216 t217 w0 _ ?side1 ?side2 A35.out).mono ?_
           (case side1 => repeat (first | (with_reducible first | exact HI0.out | apply IsS139.alloc | apply IsS139.drewN | apply IsS139.drew | apply IsS139.set_1 | apply IsS139.set_2 | refine IsS139.far ?_ NB0_184.out _ | refine IsS139.far ?_ NB0_195.out _) | exact HI0.out))
           (case side2 => repeat (first | (with_reducible first | exact HB.out | apply bal | apply pdn | apply bd1 | refine bst ?_ (IsS139.ge HI0.out) | refine bst ?_ GE184.out | refine bst ?_ GE195.out) | exact HB.out))
           rintro e w43 ⟨rfl, hi, hb, hk⟩
           refine ⟨_, rfl, ?_⟩
           have n0_ := am (Kd.R_mono (Kd.R_keep (IsS139.apart (show IsS139 w0 _ g s0_0 t213 t214 from by repeat (first | (with_reducible first | exact HI0.out | apply IsS139.alloc | apply IsS139.drewN | apply IsS139.drew | apply IsS139.set_1 | apply IsS139.set_2 | refine IsS139.far ?_ NB0_184.out _ | refine IsS139.far ?_ NB0_195.out _) | exact HI0.out)) (by (with_reducible repeat (first | apply kra | apply krn | apply krd)); exact HO_196000.out) (by decide)) hk (fun _ h => h.2)) (fun _ h => h.1))
           have n1_ := am (Kd.R_mono (Kd.R_keep (IsS139.apart (show IsS139 w0 _ g s0_0 t213 t214 from by repeat (first | (with_reducible first | exact HI0.out | apply IsS139.alloc | apply IsS139.drewN | apply IsS139.drew | apply IsS139.set_1 | apply IsS139.set_2 | refine IsS139.far ?_ NB0_184.out _ | refine IsS139.far ?_ NB0_195.out _) | exact HI0.out)) (by (with_reducible repeat (first | apply kra | apply krn | apply krd)); exact HO_196001.out) (by decide)) hk (fun _ h => h.2)) (fun _ h => h.1))
           have n2_ := am (KeepBut.blk hk (g' := gb184) (o := .cells #[.slice none 0 0, .slice none 0 0] 30 (0, 0)) (by (with_reducible repeat (first | apply kdn | apply kdr | apply kal)); exact BK184.out) NB184_0.out (by simp))
           have n3_ := am (KeepBut.blk hk (g' := gb195) (o := .cells #[u196000, u196001] 30 (0, 0)) (by (with_reducible repeat (first | apply kdn | apply kdr | apply kal)); exact BK195.out) NB195_0.out (by simp))
           have n4_ := am (KeepBut.trans (by repeat (first | (with_reducible first | exact HK.out | apply KeepBut.set_ | apply keep_drewN | apply keep_drew | apply keep_alloc | refine keep_far ?_ GW184.out _ | refine keep_far ?_ GW195.out _) | exact HK.out)) hk (.inl rfl))
           have n5_ := am (hb)
           have n6_ := am (hi)
           clear HO_196000
           clear HO_196001
           clear BK184
           clear BK195
           clear HK
           clear HB
           clear HI0
           have HO_196000 := n0_
           have HO_196001 := n1_
           have BK184 := n2_
           have BK195 := n3_
           have HK := n4_
           have HB := n5_
           have HI0 := n6_
           clear n0_ n1_ n2_ n3_ n4_ n5_ n6_
           refine hK.out _ _ ⟨(kce BK195.out 0).trans rfl, (kce BK195.out 1).trans rfl⟩ (fun hHeld => ?_)
           clear hK K
           refine norm_ (a' := ?_) ?_ ?_
           rotate_left
           ·show Act.put _ (some 55) _ = _
            simp only [Act.put, sit, scz, scs, i64_w, i32_w]
            rfl
           refine pure_ (i := 4) (N := some 56) (v := ?_) (a' := ?_) #[true, true, true, true, true, true, false, true, false, false, false, false, false, false, false] rfl rfl (any_of HT_.out (by kernel_rfl)) (fun _ _ _ h => h) (Or.inl ⟨by rfl, ?_⟩) ?_ ?_
           rotate_left
           ·intro w'
            go_simp
            with_reducible rfl
           rotate_left
           ·simp only [Act.put, sit, scz, scs, i64_w, i32_w]
            rfl
           refine one_ (i := 6) (N := some 58) #[true, true, true, true, true, true, true, true, false, false, false, false, false, false, false] rfl rfl (one_of HT_.out (by kernel_rfl)) (by decide) (fun K hK => ?_)
           refine goes_ Try.func113 (by kernel_rfl) rfl #[.pointer (some ⟨g, 0, none⟩)] (by rfl) rfl rfl (by (try simp only [mta, mco, mni]); first | done | rfl | (simp only [lnd, lnt]; rfl)) ?_
           with_reducible refine (spec_l14Sector.calls k2 g s0_0 t216 t217 t218 t219 t220 w0 _ ?side1 ?side2 A36.out).mono ?_
           (case side1 => repeat (first | (with_reducible first | exact HI0.out | apply IsS139.alloc | apply IsS139.drewN | apply IsS139.drew | apply IsS139.set_1 | apply IsS139.set_2 | refine IsS139.far ?_ NB0_184.out _ | refine IsS139.far ?_ NB0_195.out _) | exact HI0.out))
           (case side2 => repeat (first | (with_reducible first | exact HB.out | apply bal | apply pdn | apply bd1 | refine bst ?_ (IsS139.ge HI0.out) | refine bst ?_ GE184.out | refine bst ?_ GE195.out) | exact HB.out))
           rintro e w44 ⟨rfl, hi, hb, hk⟩
           refine ⟨_, rfl, ?_⟩
           have n0_ := am (Kd.R_mono (Kd.R_keep (IsS139.apart (show IsS139 w0 _ g s0_0 t216 t217 from by repeat (first | (with_reducible first | exact HI0.out | apply IsS139.alloc | apply IsS139.drewN | apply IsS139.drew | apply IsS139.set_1 | apply IsS139.set_2 | refine IsS139.far ?_ NB0_184.out _ | refine IsS139.far ?_ NB0_195.out _) | exact HI0.out)) (by (with_reducible repeat (first | apply kra | apply krn | apply krd)); exact HO_196000.out) (by decide)) hk (fun _ h => h.2)) (fun _ h => h.1))
           have n1_ := am (Kd.R_mono (Kd.R_keep (IsS139.apart (show IsS139 w0 _ g s0_0 t216 t217 from by repeat (first | (with_reducible first | exact HI0.out | apply IsS139.alloc | apply IsS139.drewN | apply IsS139.drew | apply IsS139.set_1 | apply IsS139.set_2 | refine IsS139.far ?_ NB0_184.out _ | refine IsS139.far ?_ NB0_195.out _) | exact HI0.out)) (by (with_reducible repeat (first | apply kra | apply krn | apply krd)); exact HO_196001.out) (by decide)) hk (fun _ h => h.2)) (fun _ h => h.1))
           have n2_ := am (KeepBut.blk hk (g' := gb184) (o := .cells #[.slice none 0 0, .slice none 0 0] 30 (0, 0)) (by (with_reducible repeat (first | apply kdn | apply kdr | apply kal)); exact BK184.out) NB184_0.out (by simp))
           have n3_ := am (KeepBut.blk hk (g' := gb195) (o := .cells #[u196000, u196001] 30 (0, 0)) (by (with_reducible repeat (first | apply kdn | apply kdr | apply kal)); exact BK195.out) NB195_0.out (by simp))
           have n4_ := am (KeepBut.trans (by repeat (first | (with_reducible first | exact HK.out | apply KeepBut.set_ | apply keep_drewN | apply keep_drew | apply keep_alloc | refine keep_far ?_ GW184.out _ | refine keep_far ?_ GW195.out _) | exact HK.out)) hk (.inl rfl))
           have n5_ := am (hb)
           have n6_ := am (hi)
           clear HO_196000
           clear HO_196001
           clear BK184
           clear BK195
           clear HK
           clear HB
           clear HI0
           have HO_196000 := n0_
           have HO_196001 := n1_
           have BK184 := n2_
           have BK195 := n3_
           have HK := n4_
           have HB := n5_
           have HI0 := n6_
           clear n0_ n1_ n2_ n3_ n4_ n5_ n6_
           refine hK.out _ _ ⟨(kce BK195.out 0).trans rfl, (kce BK195.out 1).trans rfl⟩ (fun hHeld => ?_)
           clear hK K
           refine norm_ (a' := ?_) ?_ ?_
           rotate_left
           ·show Act.put _ (some 58) _ = _
            simp only [Act.put, sit, scz, scs, i64_w, i32_w]
            rfl
           refine one_ (i := 8) (N := some 60) #[true, true, true, true, true, true, true, true, true, false, false, false, false, false, false] rfl rfl (one_of HT_.out (by kernel_rfl)) (by decide) (fun K hK => ?_)
           refine goes_ Try.func82 (by kernel_rfl) rfl #[.pointer (some ⟨g, 0, none⟩), .int .i64 2] (by rfl) rfl rfl (by (try simp only [mta, mco, mni]); first | done | rfl | (simp only [lnd, lnt]; rfl)) ?_
           with_reducible refine (spec_l00Src_pick.calls g s0_0 t219 t220 2 t221 t222 t223 w0 _ ?side1 ?side2 A37.out).mono ?_
           (case side1 => repeat (first | (with_reducible first | exact HI0.out | apply IsS139.alloc | apply IsS139.drewN | apply IsS139.drew | apply IsS139.set_1 | apply IsS139.set_2 | refine IsS139.far ?_ NB0_184.out _ | refine IsS139.far ?_ NB0_195.out _) | exact HI0.out))
           (case side2 => repeat (first | (with_reducible first | exact HB.out | apply bal | apply pdn | apply bd1 | refine bst ?_ (IsS139.ge HI0.out) | refine bst ?_ GE184.out | refine bst ?_ GE195.out) | exact HB.out))
           rintro e w45 ⟨rfl, hi, hb, hk⟩
           refine ⟨_, rfl, ?_⟩
           have n0_ := am (Kd.R_mono (Kd.R_keep (IsS139.apart (show IsS139 w0 _ g s0_0 t219 t220 from by repeat (first | (with_reducible first | exact HI0.out | apply IsS139.alloc | apply IsS139.drewN | apply IsS139.drew | apply IsS139.set_1 | apply IsS139.set_2 | refine IsS139.far ?_ NB0_184.out _ | refine IsS139.far ?_ NB0_195.out _) | exact HI0.out)) (by (with_reducible repeat (first | apply kra | apply krn | apply krd)); exact HO_196000.out) (by decide)) hk (fun _ h => h.2)) (fun _ h => h.1))
           have n1_ := am (Kd.R_mono (Kd.R_keep (IsS139.apart (show IsS139 w0 _ g s0_0 t219 t220 from by repeat (first | (with_reducible first | exact HI0.out | apply IsS139.alloc | apply IsS139.drewN | apply IsS139.drew | apply IsS139.set_1 | apply IsS139.set_2 | refine IsS139.far ?_ NB0_184.out _ | refine IsS139.far ?_ NB0_195.out _) | exact HI0.out)) (by (with_reducible repeat (first | apply kra | apply krn | apply krd)); exact HO_196001.out) (by decide)) hk (fun _ h => h.2)) (fun _ h => h.1))
           have n2_ := am (KeepBut.blk hk (g' := gb184) (o := .cells #[.slice none 0 0, .slice none 0 0] 30 (0, 0)) (by (with_reducible repeat (first | apply kdn | apply kdr | apply kal)); exact BK184.out) NB184_0.out (by simp))
           have n3_ := am (KeepBut.blk hk (g' := gb195) (o := .cells #[u196000, u196001] 30 (0, 0)) (by (with_reducible repeat (first | apply kdn | apply kdr | apply kal)); exact BK195.out) NB195_0.out (by simp))
           have n4_ := am (KeepBut.trans (by repeat (first | (with_reducible first | exact HK.out | apply KeepBut.set_ | apply keep_drewN | apply keep_drew | apply keep_alloc | refine keep_far ?_ GW184.out _ | refine keep_far ?_ GW195.out _) | exact HK.out)) hk (.inl rfl))
           have n5_ := am (hb)
           have n6_ := am (hi)
           clear HO_196000
           clear HO_196001
           clear BK184
           clear BK195
           clear HK
           clear HB
           clear HI0
           have HO_196000 := n0_
           have HO_196001 := n1_
           have BK184 := n2_
           have BK195 := n3_
           have HK := n4_
           have HB := n5_
           have HI0 := n6_
           clear n0_ n1_ n2_ n3_ n4_ n5_ n6_
           refine hK.out _ _ ⟨(kce BK195.out 0).trans rfl, (kce BK195.out 1).trans rfl⟩ (fun hHeld => ?_)
           clear hK K
           refine norm_ (a' := ?_) ?_ ?_
           rotate_left
           ·show Act.put _ (some 60) _ = _
            simp only [Act.put, sit, scz, scs, i64_w, i32_w]
            rfl
           refine pure_ (i := 9) (N := some 61) (v := ?_) (a' := ?_) #[true, true, true, true, true, true, true, true, true, true, false, false, false, false, false] rfl rfl (any_of HT_.out (by kernel_rfl)) (fun _ _ _ h => h) (Or.inl ⟨by rfl, ?_⟩) ?_ ?_
           rotate_left
           ·intro w'
            go_simp
            with_reducible rfl
           rotate_left
           ·simp only [Act.put, sit, scz, scs, i64_w, i32_w]
            rfl
           refine pure_ (i := 10) (N := some 62) (v := ?_) (a' := ?_) #[true, true, true, true, true, true, true, true, true, true, true, false, false, false, false] rfl rfl (any_of HT_.out (by kernel_rfl)) (fun _ _ _ h => h) (Or.inl ⟨by rfl, ?_⟩) ?_ ?_
           rotate_left
           ·intro w'
            go_simp
            with_reducible rfl
           rotate_left
           ·simp only [Act.put, sit, scz, scs, i64_w, i32_w]
            rfl
           refine one_ (i := 11) (N := some 63) #[true, true, true, true, true, true, true, true, true, true, true, true, false, false, false] rfl rfl (one_of HT_.out (by kernel_rfl)) (by decide) (fun K hK => ?_)
           refine value_ (w1 := ?_) (v := ?_) (by rfl) rfl ?_ ?_
           rotate_left 2
           ·go_simp
            constructor
            ·rfl
            ·rfl
           refine hK.out _ _ ⟨(kce (kal BK195.out _) 0).trans rfl, (kce (kal BK195.out _) 1).trans rfl⟩ (fun hHeld => ?_)
           clear hK K
           refine norm_ (a' := ?_) ?_ ?_
           rotate_left
           ·show Act.put _ (some 63) _ = _
            simp only [Act.put, sit, scz, scs, i64_w, i32_w]
            rfl
           refine one_ (i := 12) (N := some 64) #[true, true, true, true, true, true, true, true, true, true, true, true, true, false, false] rfl rfl (one_of HT_.out (by kernel_rfl)) (by decide) (fun K hK => ?_)
           refine Kd.R_append_step k55 w.heap.size (by rfl) (.tmp 53) (.tmp 63) 28 55 (.agg #[(.int .i64 0), (.string ⟨#[]⟩)]) 24 rfl Try.underlying28 info55 rfl (by decide) (by omega) u196001 x196001_2 (⟨wrap64 (t215 - 1), t218.extract (t221 : Int).toNat t218.size⟩ : S55) [.int .i64 (wrap64 (t215 - 1)), .string (t218.extract (t221 : Int).toNat t218.size)] (fun _ => True) (fun _ => False) rfl rfl ?aP (fun _ hk => hk.elim) ?aF ?aO (Below.refl _ _) ?aS ?aL ?_
           (case aP => exact k55_mkM _ _ _ (⟨wrap64 (t215 - 1), t218.extract (t221 : Int).toNat t218.size⟩ : S55))
           (case aF => exact (fun _ _ => trivial))
           (case aO => exact (by (with_reducible repeat (first | apply kra | apply krn | apply krd)); exact HO_196001.out))
           (case aS => exact (keep_size (w := w) (g := g) (row := none) (by repeat (first | (with_reducible first | exact HK.out | apply KeepBut.set_ | apply keep_drewN | apply keep_drew | apply keep_alloc | refine keep_far ?_ GW184.out _ | refine keep_far ?_ GW195.out _) | exact HK.out))))
           (case aL => have := LMc40.out; omega)
           intro v225 w46 ho hb hg hat
           rw [← Ny224.out] at ho
           have n0_ := am (Kd.R_over' (by (with_reducible repeat (first | apply kra | apply krn | apply krd)); exact HO_196000.out) (Kd.R_typed (by (with_reducible repeat (first | apply kra | apply krn | apply krd)); exact HO_196001.out)) (by decide) hg)
           have n1_ := am (blk_grown (g := gb184) (o := .cells #[.slice none 0 0, .slice none 0 0] 30 (0, 0)) (by (with_reducible repeat (first | apply kdn | apply kdr | apply kal)); exact BK184.out) hg (Kd.R_ne HO_196001.out BK184.out (by decide)))
           have n2_ := am (blk_grown (g := gb195) (o := .cells #[u196000, u196001] 30 (0, 0)) (by (with_reducible repeat (first | apply kdn | apply kdr | apply kal)); exact BK195.out) hg (Kd.R_ne HO_196001.out BK195.out (by decide)))
           have n3_ := am (IsS139.grown (by repeat (first | (with_reducible first | exact HI0.out | apply IsS139.alloc | apply IsS139.drewN | apply IsS139.drew | apply IsS139.set_1 | apply IsS139.set_2 | refine IsS139.far ?_ NB0_184.out _ | refine IsS139.far ?_ NB0_195.out _) | exact HI0.out)) hg (IsS139.own_ne HI0.out HO_196001.out (by decide)))
           have n4_ := am (below_weaken (by repeat (first | (with_reducible first | exact HB.out | apply bal | apply pdn | apply bd1 | refine bst ?_ (IsS139.ge HI0.out) | refine bst ?_ GE184.out | refine bst ?_ GE195.out) | exact HB.out)) HL.out hb)
           have n5_ := am (KeepBut.trans (by repeat (first | (with_reducible first | exact HK.out | apply KeepBut.set_ | apply keep_drewN | apply keep_drew | apply keep_alloc | refine keep_far ?_ GW184.out _ | refine keep_far ?_ GW195.out _) | exact HK.out)) (KeepBut.of_grown hg g) (Kd.R_base2 HO_196001.out))
           have n6_ := am (ho)
           clear HO_196000
           clear BK184
           clear BK195
           clear HI0
           clear HB
           clear HK
           clear HO_196001
           have HO_196000 := n0_
           have BK184 := n1_
           have BK195 := n2_
           have HI0 := n3_
           have HB := n4_
           have HK := n5_
           have HO226 := n6_
           clear n0_ n1_ n2_ n3_ n4_ n5_ n6_
           clear ho hb hg hat
           obtain ⟨Ao47, co47, eo47⟩ := Kd.R_slice HO226.out
           (first | subst eo47 | (injection eo47 with f1_ f2_ f3_; have f4_ := f1_.symm; have f5_ := f3_.symm; clear f1_ f2_ f3_; subst f4_; subst f5_))
           refine hK.out _ _ ⟨(kce BK195.out 0).trans rfl, (kce BK195.out 1).trans rfl⟩ (fun hHeld => ?_)
           clear hK K
           refine norm_ (a' := ?_) ?_ ?_
           rotate_left
           ·show Act.put _ (some 64) _ = _
            simp only [Act.put, sit, scz, scs, i64_w, i32_w]
            rfl
           refine pure_ (i := 13) (N := some 65) (v := ?_) (a' := ?_) #[true, true, true, true, true, true, true, true, true, true, true, true, true, true, false] rfl rfl (any_of HT_.out (by kernel_rfl)) (fun _ _ _ h => h) (Or.inl ⟨by rfl, ?_⟩) ?_ ?_
           rotate_left
           ·intro w'
            go_simp
            with_reducible rfl
           rotate_left
           ·simp only [Act.put, sit, scz, scs, i64_w, i32_w]
            rfl
           refine last_ (i := 14) (N := none) #[true, true, true, true, true, true, true, true, true, true, true, true, true, true, true] rfl rfl (one_of HT_.out (by kernel_rfl)) (by decide) (fun K hK => ?_)
           have hs48 : w46.cell? ⟨gb195, 1, none⟩ = some (u196001) := (kce BK195.out 1).trans rfl
           have hfs48 := kfr BK195.out 1
           have hns48_0 := NB184_195.out
           have hms48_0 := NB195_184.out
           refine skip_ (w1 := ?_) (by rfl) rfl ?_ ?_
           rotate_left
           ·go_simp
            rfl
           refine hK.out _ _ ?_
           clear hK K
           refine done_ (done_of HT_.out (by kernel_rfl)) ?_
           have hnb49 := NB195_184.out
           have hnc49 := NB184_195.out
           have hnb50 := NB195_0.out
           have hnc50 := NB0_195.out
           have hcz51_0 : w46.cell? ⟨gb195, 0, none⟩ = some (u196000) := (kce BK195.out 0).trans rfl
           have hcz51_1 : w46.cell? ⟨gb195, 1, none⟩ = some (u196001) := (kce BK195.out 1).trans rfl
           have hfz51_0 := kfr BK195.out 0
           have hfz51_1 := kfr BK195.out 1
           obtain ⟨Ao52, co52, eo52⟩ := Kd.R_slice HO_196000.out
           subst eo52
           have hnb53 := NB184_0.out
           have hnc53 := NB0_184.out
           have hcz54_0 : w46.cell? ⟨gb184, 0, none⟩ = some (.slice none 0 0) := (kce BK184.out 0).trans rfl
           have hcz54_1 : w46.cell? ⟨gb184, 1, none⟩ = some (.slice none 0 0) := (kce BK184.out 1).trans rfl
           have hfz54_0 := kfr BK184.out 0
           have hfz54_1 := kfr BK184.out 1
           try go_wp2
           refine bodyPost_ret (results_cell_row rfl _ _ gb184 30 #[.slice Ao52 x196000_1.length co52, .slice Ao47 y224.length co47] (0, 0) _ rfl (by (with_reducible repeat (first | apply kdn | apply kdr | apply kal)); refine blk_put (cs := #[.slice Ao52 x196000_1.length co52, .slice none 0 0]) ?_ 1 _ rfl; (with_reducible repeat (first | apply kdn | apply kdr | apply kal)); refine blk_put (cs := #[.slice none 0 0, .slice none 0 0]) ?_ 0 _ rfl; (with_reducible repeat (first | apply kdn | apply kdr | apply kal)); refine blk_far ?_ NB184_195.out _; (with_reducible repeat (first | apply kdn | apply kdr | apply kal)); exact BK184.out) Try.underlying30 rfl (by kernel_rfl)) rfl ?_
           exact ⟨_, _, by first | rfl | (simp [errW_none, errW_some] <;> rfl) | (simp [*, errW_none, errW_some] <;> rfl), by (with_reducible repeat (first | apply kra | apply krn | apply krd)); exact Kd.R_mono (kfa (p := ⟨gb184, 1, none⟩) (kfa (p := ⟨gb184, 0, none⟩) (kfa (p := ⟨gb195, 1, none⟩) (Kd.R_types (Kd.R_types HO_196000.out BK195.out (by decide)) BK184.out (by decide)) (fun _ hk => hk.1.2) (.slice Ao47 y224.length co47)) (fun _ hk => hk.2) (.slice Ao52 x196000_1.length co52)) (fun _ hk => hk.2) (.slice Ao47 y224.length co47)) (fun _ hk => trivial), by (with_reducible repeat (first | apply kra | apply krn | apply krd)); exact Kd.R_mono (kfa (p := ⟨gb184, 1, none⟩) (kfa (p := ⟨gb184, 0, none⟩) (kfa (p := ⟨gb195, 1, none⟩) (Kd.R_types (Kd.R_types HO226.out BK195.out (by decide)) BK184.out (by decide)) (fun _ hk => hk.1.2) (.slice Ao47 y224.length co47)) (fun _ hk => hk.2) (.slice Ao52 x196000_1.length co52)) (fun _ hk => hk.2) (.slice Ao47 y224.length co47)) (fun _ hk => trivial), by repeat (first | (with_reducible first | exact HI0.out | apply IsS139.alloc | apply IsS139.drewN | apply IsS139.drew | apply IsS139.set_1 | apply IsS139.set_2 | refine IsS139.far ?_ NB0_184.out _ | refine IsS139.far ?_ NB0_195.out _) | exact HI0.out), by repeat (first | (with_reducible first | exact HB.out | apply bal | apply pdn | apply bd1 | refine bst ?_ (IsS139.ge HI0.out) | refine bst ?_ GE184.out | refine bst ?_ GE195.out) | exact HB.out), by repeat (first | (with_reducible first | exact HK.out | apply KeepBut.set_ | apply keep_drewN | apply keep_drew | apply keep_alloc | refine keep_far ?_ GW184.out _ | refine keep_far ?_ GW195.out _) | exact HK.out)⟩
          ·rw [if_neg c40] at H
           exact absurd H (by simp)
         ·rw [if_neg c39] at H
          exact absurd H (by simp)
        ·rw [if_neg c38] at H
         exact absurd H (by simp)
       ·rw [if_neg c34] at H
        have c34b0 : (t212 == 0) = false := beq_eq_false_iff_ne.mpr c34
        have c34b1 : (t212 != 0) = true := bne_iff_ne.mpr c34
        by_cases c55 : t212 = 1
        ·rw [if_pos c55] at H
         have c55b0 : (t212 == 1) = true := beq_iff_eq.mpr c55
         have c55b1 : (t212 != 1) = false := bne_eq_false_iff_eq.mpr c55
         clear c55
         by_cases c56 : 0 < (x196000_1.length : Int)
         ·rw [if_pos c56] at H
          have c56b0 : decide (0 < (x196000_1.length : Int)) = true := decide_eq_true c56
          have c56b1 : decide (0 < x196000_1.length) = true := decide_eq_true (by omega)
          clear c56
          by_cases c57 : 1 ≤ ((rdOf ByteArray.empty x196000_1 0).size : Int)
          ·rw [if_pos c57] at H
           have c57b0 := eq_true c57
           have c57b1 : decide (1 ≤ ((rdOf ByteArray.empty x196000_1 0).size : Int)) = true := decide_eq_true c57
           clear c57
           obtain ⟨y228, hy228⟩ : ∃ y_ : List ByteArray, y_ = (x196000_1.set (0 : Int).toNat ((rdOf ByteArray.empty x196000_1 0).extract 1 (rdOf ByteArray.empty x196000_1 0).size)) := ⟨_, rfl⟩
           replace H : (some (y228, x196001_2, t213, t214)) = some (r1, r2, r3, r4) := by first | (rw [hy228]; with_reducible exact H) | (have H2_ := (Option.bind_some _ _).symm.trans H; rw [hy228]; with_reducible exact H2_) | (have H2_ := (Option.bind_some _ _).symm.trans H; with_reducible exact H2_) | with_reducible exact H | (rw [hy228]; exact H) | exact H
           have Ny228 := am hy228
           clear hy228
           simp only [Option.some.injEq, Prod.mk.injEq] at H
           obtain ⟨rfl, rfl, rfl, rfl⟩ := H
           try go_wp2_with (first | ((with_reducible refine gate_callee (f := 82) rfl ?_); refine goesL_ (some 49) rfl rfl Try.func82 (by kernel_rfl) rfl #[.pointer (some ⟨g, 0, none⟩), .int .i64 20] rfl (by (try simp only [mta, mco, mni]); first | done | rfl | (simp only [lnd, lnt]; rfl)) ?_; (with_reducible refine (spec_l00Src_pick.calls g s0_0 x1001_2 x1002_2 20 t212 t213 t214 w0 _ ?side1 ?side2 A33.out).mono ?_); (case side1 => repeat (first | (with_reducible first | exact HI0.out | apply IsS139.alloc | apply IsS139.drewN | apply IsS139.drew | apply IsS139.set_1 | apply IsS139.set_2 | refine IsS139.far ?_ NB0_184.out _ | refine IsS139.far ?_ NB0_195.out _) | exact HI0.out)); (case side2 => repeat (first | (with_reducible first | exact HB.out | apply bal | apply pdn | apply bd1 | refine bst ?_ (IsS139.ge HI0.out) | refine bst ?_ GE184.out | refine bst ?_ GE195.out) | exact HB.out)); rintro e w59 ⟨rfl, hi, hb, hk⟩; refine ⟨_, rfl, ?_⟩; have n0_ := am (Kd.R_mono (Kd.R_keep (IsS139.apart (show IsS139 w0 _ g s0_0 x1001_2 x1002_2 from by repeat (first | (with_reducible first | exact HI0.out | apply IsS139.alloc | apply IsS139.drewN | apply IsS139.drew | apply IsS139.set_1 | apply IsS139.set_2 | refine IsS139.far ?_ NB0_184.out _ | refine IsS139.far ?_ NB0_195.out _) | exact HI0.out)) (by (with_reducible repeat (first | apply kra | apply krn | apply krd)); exact HO_196000.out) (by decide)) hk (fun _ h => h.2)) (fun _ h => h.1)); have n1_ := am (Kd.R_mono (Kd.R_keep (IsS139.apart (show IsS139 w0 _ g s0_0 x1001_2 x1002_2 from by repeat (first | (with_reducible first | exact HI0.out | apply IsS139.alloc | apply IsS139.drewN | apply IsS139.drew | apply IsS139.set_1 | apply IsS139.set_2 | refine IsS139.far ?_ NB0_184.out _ | refine IsS139.far ?_ NB0_195.out _) | exact HI0.out)) (by (with_reducible repeat (first | apply kra | apply krn | apply krd)); exact HO_196001.out) (by decide)) hk (fun _ h => h.2)) (fun _ h => h.1)); have n2_ := am (KeepBut.blk hk (g' := gb184) (o := .cells #[.slice none 0 0, .slice none 0 0] 30 (0, 0)) (by (with_reducible repeat (first | apply kdn | apply kdr | apply kal)); exact BK184.out) NB184_0.out (by simp)); have n3_ := am (KeepBut.blk hk (g' := gb195) (o := .cells #[u196000, u196001] 30 (0, 0)) (by (with_reducible repeat (first | apply kdn | apply kdr | apply kal)); exact BK195.out) NB195_0.out (by simp)); have n4_ := am (KeepBut.trans (by repeat (first | (with_reducible first | exact HK.out | apply KeepBut.set_ | apply keep_drewN | apply keep_drew | apply keep_alloc | refine keep_far ?_ GW184.out _ | refine keep_far ?_ GW195.out _) | exact HK.out)) hk (.inl rfl)); have n5_ := am (hb); have n6_ := am (hi); clear HO_196000; clear HO_196001; clear BK184; clear BK195; clear HK; clear HB; clear HI0; have HO_196000 := n0_; have HO_196001 := n1_; have BK184 := n2_; have BK195 := n3_; have HK := n4_; have HB := n5_; have HI0 := n6_; clear n0_ n1_ n2_ n3_ n4_ n5_ n6_; (try clear hb); (try clear hb2); (try clear hk); (try clear hi)))
           have n0_ := am (krd HO_196000.out)
           have n1_ := am (krd HO_196001.out)
           have n2_ := am (kdr BK184.out)
           have n3_ := am (kdr BK195.out)
           have n4_ := am (IsS139.drew HI0.out)
           have n5_ := am (keep_drew HK.out)
           have n6_ := am (bd1 HB.out)
           clear HO_196000
           clear HO_196001
           clear BK184
           clear BK195
           clear HI0
           clear HK
           clear HB
           have HO_196000 := n0_
           have HO_196001 := n1_
           have BK184 := n2_
           have BK195 := n3_
           have HI0 := n4_
           have HK := n5_
           have HB := n6_
           clear n0_ n1_ n2_ n3_ n4_ n5_ n6_
           obtain ⟨Ao61, co61, eo61⟩ := Kd.R_slice HO_196000.out
           (first | subst eo61 | (injection eo61 with f1_ f2_ f3_; have f4_ := f1_.symm; have f5_ := f3_.symm; clear f1_ f2_ f3_; subst f4_; subst f5_))
           have p227 : 0 ≤ (0 : Int) := (by omega)
           have q227 : 0 < (x196000_1.length : Int) := of_decide_eq_true (by first | (with_reducible assumption) | assumption)
           obtain ⟨ad227, e227, hx227_0⟩ := Kd.at_string (Kd.R_reads' HO_196000.out).2.2 0 p227 q227
           cases e227
           have qi227 : (0 < x196000_1.length) = True := eq_true (by omega)
           (try rw [show ((0 : Int)).toNat = 0 from rfl] at hx227_0)
           (try rw [Addr.add_zero'] at hx227_0)
           replace p227 := eq_true p227
           replace q227 := eq_true q227
           have p58 : 0 ≤ (0 : Int) := (by omega)
           have q58 : (0 : Int) < ((x196000_1.length : Int) : Int) := of_decide_eq_true (by first | (with_reducible assumption) | assumption)
           have qi58 : (0 < x196000_1.length) = True := eq_true (by omega)
           obtain ⟨go58, co58, eo58, gb58, gl58, cl58, HG58⟩ := Kd.R_form HO_196000.out (by omega)
           (first | cases eo58 | (injection eo58 with ea_ en_ ec_; (first | subst ea_ | (injection ea_ with ea_; subst ea_)); subst ec_; clear en_))
           have GB58 := am gb58
           have GG58 := am HG58
           clear gb58 gl58 HG58
           (first | simp only [add_plain] at hx227_0 | skip)
           obtain ⟨hx58_0, hf58_0⟩ := Kd.R_celln (⟨#[]⟩ : ByteArray) HO_196000.out (0 : Int) p58 q58
           (try rw [show ((0 : Int)).toNat = 0 from rfl] at hx58_0)
           (try simp only [Nat.reduceMul, Nat.zero_mul, Nat.zero_add, Nat.reduceAdd] at hx58_0)
           (try rw [show ((0 : Int)).toNat = 0 from rfl] at hf58_0)
           (try simp only [Nat.reduceMul, Nat.zero_mul, Nat.zero_add, Nat.reduceAdd] at hf58_0)
           replace p58 := eq_true p58
           replace q58 := eq_true q58
           have HN0_go58 := am (show g ≠ go58 from by have h_ := IsS139.own_ne HI0.out HO_196000.out (by decide); intro e_; exact h_ (by rw [e_]; rfl))
           have HP62 := Kd.R_putn HO_196000.out (0 : Int) ((rdOf ByteArray.empty x196000_1 0).extract 1 (rdOf ByteArray.empty x196000_1 0).size)
           rw [← Ny228.out] at HP62
           have HQ62 := am HP62
           clear HP62
           refine start_ (n := 9) (S := fun w' => w'.cell? ⟨gb195, 0, none⟩ = some (.slice (some ⟨go58, 0, none⟩) x196000_1.length co61) ∧ w'.cell? ⟨gb195, 1, none⟩ = some (u196001) ∧ w'.cell? ⟨go58, 0, none⟩ = some (.string (rdOf ByteArray.empty x196000_1 0))) (ds := [8]) #[false, false, false, false, false, false, false, false, false] (by kernel_rfl) rfl rfl ⟨(kce BK195.out 0).trans rfl, (kce BK195.out 1).trans rfl, hx227_0⟩ (fun hHeld => ?_); refine with_tabW spec_l14Disk.tab16 spec_l14Disk.bits16 (fun HT_ HW_ => ?_)
           generalize w59.drew = w60 at HO_196000 HO_196001 BK184 BK195 HI0 HK HB GG58 HQ62 hf58_0 hx227_0 hx58_0 hHeld ⊢
           refine pure_ (i := 0) (N := some 68) (v := ?_) (a' := ?_) #[true, false, false, false, false, false, false, false, false] rfl rfl (any_of HT_.out (by kernel_rfl)) (fun _ _ _ h => h) (Or.inl ⟨by rfl, ?_⟩) ?_ ?_
           rotate_left
           ·intro w'
            go_simp
            with_reducible rfl
           rotate_left
           ·simp only [Act.put, sit, scz, scs, i64_w, i32_w]
            rfl
           refine pure_ (i := 2) (N := some 70) (v := ?_) (a' := ?_) #[true, false, true, false, false, false, false, false, false] rfl rfl (any_of HT_.out (by kernel_rfl)) (fun _ _ _ h => h) (Or.inl ⟨by rfl, ?_⟩) ?_ ?_
           rotate_left
           ·intro w'
            go_simp
            with_reducible rfl
           rotate_left
           ·simp only [Act.put, sit, scz, scs, i64_w, i32_w]
            rfl
           refine take_ (i := 1) (N := some 69) (v := ?_) (a' := ?_) #[true, true, true, false, false, false, false, false, false] rfl rfl (take_ofW HT_.out HW_.out (by kernel_rfl)) (fun _ _ _ h => h) (Or.inl ⟨by rfl, ?_⟩) hHeld ?_ ?_
           rotate_left
           ·rintro w' ⟨s0, s1, s2⟩
            go_simp
            with_reducible rfl
           rotate_left
           ·simp only [Act.put, sit, scz, scs, i64_w, i32_w]
            rfl
           refine take_ (i := 3) (N := some 71) (v := ?_) (a' := ?_) #[true, true, true, true, false, false, false, false, false] rfl rfl (take_ofW HT_.out HW_.out (by kernel_rfl)) (fun _ _ _ h => h) (Or.inl ⟨by rfl, ?_⟩) hHeld ?_ ?_
           rotate_left
           ·rintro w' ⟨s0, s1, s2⟩
            go_simp
            with_reducible rfl
           rotate_left
           ·simp only [Act.put, sit, scz, scs, i64_w, i32_w]
            rfl
           refine pure_ (i := 4) (N := some 72) (v := ?_) (a' := ?_) #[true, true, true, true, true, false, false, false, false] rfl rfl (any_of HT_.out (by kernel_rfl)) (fun _ _ _ h => h) (Or.inl ⟨by rfl, ?_⟩) ?_ ?_
           rotate_left
           ·intro w'
            go_simp
            with_reducible rfl
           rotate_left
           ·simp only [Act.put, sit, scz, scs, i64_w, i32_w]
            rfl
           refine take_ (i := 5) (N := some 73) (v := ?_) (a' := ?_) #[true, true, true, true, true, true, false, false, false] rfl rfl (take_ofW HT_.out HW_.out (by kernel_rfl)) (fun _ _ _ h => h) (Or.inl ⟨by rfl, ?_⟩) hHeld ?_ ?_
           rotate_left
           ·rintro w' ⟨s0, s1, s2⟩
            go_simp
            with_reducible rfl
           rotate_left
           ·simp only [Act.put, sit, scz, scs, i64_w, i32_w]
            rfl
           refine pure_ (i := 6) (N := some 74) (v := ?_) (a' := ?_) #[true, true, true, true, true, true, true, false, false] rfl rfl (any_of HT_.out (by kernel_rfl)) (fun _ _ _ h => h) (Or.inl ⟨by rfl, ?_⟩) ?_ ?_
           rotate_left
           ·intro w'
            go_simp
            with_reducible rfl
           rotate_left
           ·simp only [Act.put, sit, scz, scs, i64_w, i32_w]
            rfl
           refine pure_ (i := 7) (N := some 75) (v := ?_) (a' := ?_) #[true, true, true, true, true, true, true, true, false] rfl rfl (any_of HT_.out (by kernel_rfl)) (fun _ _ _ h => h) (Or.inl ⟨by rfl, ?_⟩) ?_ ?_
           rotate_left
           ·intro w'
            go_simp
            with_reducible rfl
           rotate_left
           ·simp only [Act.put, sit, scz, scs, i64_w, i32_w]
            rfl
           refine last_ (i := 8) (N := none) #[true, true, true, true, true, true, true, true, true] rfl rfl (one_of HT_.out (by kernel_rfl)) (by decide) (fun K hK => ?_)
           refine skip_ (w1 := ?_) (by rfl) rfl ?_ ?_
           rotate_left
           ·go_simp
            rfl
           refine hK.out _ _ ?_
           clear hK K
           refine done_ (done_of HT_.out (by kernel_rfl)) ?_
           have n0_ : Aside0 (Kd.R Kd.string 9 (w60.setCell ⟨go58, 0, none⟩ (.string ((rdOf ByteArray.empty x196000_1 0).extract 1 (rdOf ByteArray.empty x196000_1 0).size))) w.heap.size (fun _ => True) (.slice (some ⟨go58, 0, none⟩) x196000_1.length co61) y228) := ⟨by (with_reducible repeat (first | apply kra | apply krn | apply krd)); exact HQ62.out⟩
           have n1_ : Aside0 (Kd.R k55 55 (w60.setCell ⟨go58, 0, none⟩ (.string ((rdOf ByteArray.empty x196000_1 0).extract 1 (rdOf ByteArray.empty x196000_1 0).size))) w.heap.size (fun _ => True) u196001 x196001_2) := ⟨by (with_reducible repeat (first | apply kra | apply krn | apply krd)); exact Kd.R_mono (kfa (p := ⟨go58, 0, none⟩) (Kd.R_types HO_196001.out GG58.out (by decide)) (fun _ hk => hk.2) (.string ((rdOf ByteArray.empty x196000_1 0).extract 1 (rdOf ByteArray.empty x196000_1 0).size))) (fun _ hk => trivial)⟩
           have n2_ : Aside0 ((w60.setCell ⟨go58, 0, none⟩ (.string ((rdOf ByteArray.empty x196000_1 0).extract 1 (rdOf ByteArray.empty x196000_1 0).size))).heap[gb184]? = some (.cells #[.slice none 0 0, .slice none 0 0] 30 (0, 0))) := ⟨by (with_reducible repeat (first | apply kdn | apply kdr | apply kal)); refine blk_far ?_ (by have h_ := Kd.R_ne HO_196000.out BK184.out (by decide); intro e_; exact h_ (by rw [e_]; rfl)) _; (with_reducible repeat (first | apply kdn | apply kdr | apply kal)); exact BK184.out⟩
           have n3_ : Aside0 ((w60.setCell ⟨go58, 0, none⟩ (.string ((rdOf ByteArray.empty x196000_1 0).extract 1 (rdOf ByteArray.empty x196000_1 0).size))).heap[gb195]? = some (.cells #[.slice (some ⟨go58, 0, none⟩) x196000_1.length co61, u196001] 30 (0, 0))) := ⟨by (with_reducible repeat (first | apply kdn | apply kdr | apply kal)); refine blk_far ?_ (by have h_ := Kd.R_ne HO_196000.out BK195.out (by decide); intro e_; exact h_ (by rw [e_]; rfl)) _; (with_reducible repeat (first | apply kdn | apply kdr | apply kal)); exact BK195.out⟩
           have n4_ : Aside0 (IsS139 w0 (w60.setCell ⟨go58, 0, none⟩ (.string ((rdOf ByteArray.empty x196000_1 0).extract 1 (rdOf ByteArray.empty x196000_1 0).size))) g s0_0 t213 t214) := ⟨by repeat (first | (with_reducible first | exact HI0.out | apply IsS139.alloc | apply IsS139.drewN | apply IsS139.drew | apply IsS139.set_1 | apply IsS139.set_2 | refine IsS139.far ?_ HN0_go58.out _ | refine IsS139.far ?_ NB0_184.out _ | refine IsS139.far ?_ NB0_195.out _) | exact HI0.out)⟩
           have n5_ : Aside0 (KeepBut w (w60.setCell ⟨go58, 0, none⟩ (.string ((rdOf ByteArray.empty x196000_1 0).extract 1 (rdOf ByteArray.empty x196000_1 0).size))) g none) := ⟨by repeat (first | (with_reducible first | exact HK.out | apply KeepBut.set_ | apply keep_drewN | apply keep_drew | apply keep_alloc | refine keep_far ?_ GB58.out _ | refine keep_far ?_ GW184.out _ | refine keep_far ?_ GW195.out _) | exact HK.out)⟩
           have n6_ : Aside0 (Below w0.heap.size w0 (w60.setCell ⟨go58, 0, none⟩ (.string ((rdOf ByteArray.empty x196000_1 0).extract 1 (rdOf ByteArray.empty x196000_1 0).size)))) := ⟨by repeat (first | (with_reducible first | exact HB.out | apply bal | apply pdn | apply bd1 | refine bst ?_ (Nat.le_trans HL.out GB58.out) | refine bst ?_ (IsS139.ge HI0.out) | refine bst ?_ GE184.out | refine bst ?_ GE195.out) | exact HB.out)⟩
           (try clear HO_196000)
           (try clear HO_196001)
           (try clear BK184)
           (try clear BK195)
           (try clear HI0)
           (try clear HK)
           (try clear HB)
           generalize (w60.setCell ⟨go58, 0, none⟩ (.string ((rdOf ByteArray.empty x196000_1 0).extract 1 (rdOf ByteArray.empty x196000_1 0).size))) = w63 at n0_ n1_ n2_ n3_ n4_ n5_ n6_ ⊢
           have HO_196000 := n0_
           have HO_196001 := n1_
           have BK184 := n2_
           have BK195 := n3_
           have HI0 := n4_
           have HK := n5_
           have HB := n6_
           clear n0_ n1_ n2_ n3_ n4_ n5_ n6_
           have hnb64 := NB195_184.out
           have hnc64 := NB184_195.out
           have hnb65 := NB195_0.out
           have hnc65 := NB0_195.out
           have hcz66_0 : w63.cell? ⟨gb195, 0, none⟩ = some (.slice (some ⟨go58, 0, none⟩) x196000_1.length co61) := (kce BK195.out 0).trans rfl
           have hcz66_1 : w63.cell? ⟨gb195, 1, none⟩ = some (u196001) := (kce BK195.out 1).trans rfl
           have hfz66_0 := kfr BK195.out 0
           have hfz66_1 := kfr BK195.out 1
           have hnb67 := NB184_0.out
           have hnc67 := NB0_184.out
           have hcz68_0 : w63.cell? ⟨gb184, 0, none⟩ = some (.slice none 0 0) := (kce BK184.out 0).trans rfl
           have hcz68_1 : w63.cell? ⟨gb184, 1, none⟩ = some (.slice none 0 0) := (kce BK184.out 1).trans rfl
           have hfz68_0 := kfr BK184.out 0
           have hfz68_1 := kfr BK184.out 1
           obtain ⟨Ao69, co69, eo69⟩ := Kd.R_slice HO_196001.out
           subst eo69
           try go_wp2
           refine bodyPost_ret (results_cell_row rfl _ _ gb184 30 #[.slice (some ⟨go58, 0, none⟩) x196000_1.length co61, .slice Ao69 x196001_2.length co69] (0, 0) _ rfl (by (with_reducible repeat (first | apply kdn | apply kdr | apply kal)); refine blk_put (cs := #[.slice (some ⟨go58, 0, none⟩) x196000_1.length co61, .slice none 0 0]) ?_ 1 _ rfl; (with_reducible repeat (first | apply kdn | apply kdr | apply kal)); refine blk_put (cs := #[.slice none 0 0, .slice none 0 0]) ?_ 0 _ rfl; (with_reducible repeat (first | apply kdn | apply kdr | apply kal)); exact BK184.out) Try.underlying30 rfl (by kernel_rfl)) rfl ?_
           exact ⟨_, _, by first | rfl | (simp [errW_none, errW_some] <;> rfl) | (simp [*, errW_none, errW_some] <;> rfl), by (with_reducible repeat (first | apply kra | apply krn | apply krd)); exact Kd.R_mono (kfa (p := ⟨gb184, 1, none⟩) (kfa (p := ⟨gb184, 0, none⟩) (Kd.R_types HO_196000.out BK184.out (by decide)) (fun _ hk => hk.2) (.slice (some ⟨go58, 0, none⟩) x196000_1.length co61)) (fun _ hk => hk.2) (.slice Ao69 x196001_2.length co69)) (fun _ hk => trivial), by (with_reducible repeat (first | apply kra | apply krn | apply krd)); exact Kd.R_mono (kfa (p := ⟨gb184, 1, none⟩) (kfa (p := ⟨gb184, 0, none⟩) (Kd.R_types HO_196001.out BK184.out (by decide)) (fun _ hk => hk.2) (.slice (some ⟨go58, 0, none⟩) x196000_1.length co61)) (fun _ hk => hk.2) (.slice Ao69 x196001_2.length co69)) (fun _ hk => trivial), by repeat (first | (with_reducible first | exact HI0.out | apply IsS139.alloc | apply IsS139.drewN | apply IsS139.drew | apply IsS139.set_1 | apply IsS139.set_2 | refine IsS139.far ?_ NB0_184.out _ | refine IsS139.far ?_ NB0_195.out _) | exact HI0.out), by repeat (first | (with_reducible first | exact HB.out | apply bal | apply pdn | apply bd1 | refine bst ?_ (IsS139.ge HI0.out) | refine bst ?_ GE184.out | refine bst ?_ GE195.out) | exact HB.out), by repeat (first | (with_reducible first | exact HK.out | apply KeepBut.set_ | apply keep_drewN | apply keep_drew | apply keep_alloc | refine keep_far ?_ GW184.out _ | refine keep_far ?_ GW195.out _) | exact HK.out)⟩
          ·rw [if_neg c57] at H
           exact absurd H (by simp)
         ·rw [if_neg c56] at H
          exact absurd H (by simp)
        ·rw [if_neg c55] at H
         have c55b0 : (t212 == 1) = false := beq_eq_false_iff_ne.mpr c55
         have c55b1 : (t212 != 1) = true := bne_iff_ne.mpr c55
         by_cases c70 : t212 = 2
         ·rw [if_pos c70] at H
          have c70b0 : (t212 == 2) = true := beq_iff_eq.mpr c70
          have c70b1 : (t212 != 2) = false := bne_eq_false_iff_eq.mpr c70
          clear c70
          simp only [Option.some.injEq, Prod.mk.injEq] at H
          obtain ⟨rfl, rfl, rfl, rfl⟩ := H
          go_wp2_with (first | ((with_reducible refine gate_callee (f := 82) rfl ?_); refine goesL_ (some 49) rfl rfl Try.func82 (by kernel_rfl) rfl #[.pointer (some ⟨g, 0, none⟩), .int .i64 20] rfl (by (try simp only [mta, mco, mni]); first | done | rfl | (simp only [lnd, lnt]; rfl)) ?_; (with_reducible refine (spec_l00Src_pick.calls g s0_0 x1001_2 x1002_2 20 t212 t213 t214 w0 _ ?side1 ?side2 A33.out).mono ?_); (case side1 => repeat (first | (with_reducible first | exact HI0.out | apply IsS139.alloc | apply IsS139.drewN | apply IsS139.drew | apply IsS139.set_1 | apply IsS139.set_2 | refine IsS139.far ?_ NB0_184.out _ | refine IsS139.far ?_ NB0_195.out _) | exact HI0.out)); (case side2 => repeat (first | (with_reducible first | exact HB.out | apply bal | apply pdn | apply bd1 | refine bst ?_ (IsS139.ge HI0.out) | refine bst ?_ GE184.out | refine bst ?_ GE195.out) | exact HB.out)); rintro e w71 ⟨rfl, hi, hb, hk⟩; refine ⟨_, rfl, ?_⟩; have n0_ := am (Kd.R_mono (Kd.R_keep (IsS139.apart (show IsS139 w0 _ g s0_0 x1001_2 x1002_2 from by repeat (first | (with_reducible first | exact HI0.out | apply IsS139.alloc | apply IsS139.drewN | apply IsS139.drew | apply IsS139.set_1 | apply IsS139.set_2 | refine IsS139.far ?_ NB0_184.out _ | refine IsS139.far ?_ NB0_195.out _) | exact HI0.out)) (by (with_reducible repeat (first | apply kra | apply krn | apply krd)); exact HO_196000.out) (by decide)) hk (fun _ h => h.2)) (fun _ h => h.1)); have n1_ := am (Kd.R_mono (Kd.R_keep (IsS139.apart (show IsS139 w0 _ g s0_0 x1001_2 x1002_2 from by repeat (first | (with_reducible first | exact HI0.out | apply IsS139.alloc | apply IsS139.drewN | apply IsS139.drew | apply IsS139.set_1 | apply IsS139.set_2 | refine IsS139.far ?_ NB0_184.out _ | refine IsS139.far ?_ NB0_195.out _) | exact HI0.out)) (by (with_reducible repeat (first | apply kra | apply krn | apply krd)); exact HO_196001.out) (by decide)) hk (fun _ h => h.2)) (fun _ h => h.1)); have n2_ := am (KeepBut.blk hk (g' := gb184) (o := .cells #[.slice none 0 0, .slice none 0 0] 30 (0, 0)) (by (with_reducible repeat (first | apply kdn | apply kdr | apply kal)); exact BK184.out) NB184_0.out (by simp)); have n3_ := am (KeepBut.blk hk (g' := gb195) (o := .cells #[u196000, u196001] 30 (0, 0)) (by (with_reducible repeat (first | apply kdn | apply kdr | apply kal)); exact BK195.out) NB195_0.out (by simp)); have n4_ := am (KeepBut.trans (by repeat (first | (with_reducible first | exact HK.out | apply KeepBut.set_ | apply keep_drewN | apply keep_drew | apply keep_alloc | refine keep_far ?_ GW184.out _ | refine keep_far ?_ GW195.out _) | exact HK.out)) hk (.inl rfl)); have n5_ := am (hb); have n6_ := am (hi); clear HO_196000; clear HO_196001; clear BK184; clear BK195; clear HK; clear HB; clear HI0; have HO_196000 := n0_; have HO_196001 := n1_; have BK184 := n2_; have BK195 := n3_; have HK := n4_; have HB := n5_; have HI0 := n6_; clear n0_ n1_ n2_ n3_ n4_ n5_ n6_; (try clear hb); (try clear hb2); (try clear hk); (try clear hi); have hnb72 := NB195_184.out; have hnc72 := NB184_195.out; have hnb73 := NB195_0.out; have hnc73 := NB0_195.out; have hcz74_0 : w71.cell? ⟨gb195, 0, none⟩ = some (u196000) := (kce BK195.out 0).trans rfl; have hcz74_1 : w71.cell? ⟨gb195, 1, none⟩ = some (u196001) := (kce BK195.out 1).trans rfl; have hfz74_0 := kfr BK195.out 0; have hfz74_1 := kfr BK195.out 1; have hnb75 := NB184_0.out; have hnc75 := NB0_184.out; have hcz76_0 : w71.cell? ⟨gb184, 0, none⟩ = some (.slice none 0 0) := (kce BK184.out 0).trans rfl; have hcz76_1 : w71.cell? ⟨gb184, 1, none⟩ = some (.slice none 0 0) := (kce BK184.out 1).trans rfl; have hfz76_0 := kfr BK184.out 0; have hfz76_1 := kfr BK184.out 1; obtain ⟨Ao77, co77, eo77⟩ := Kd.R_slice HO_196001.out; subst eo77))
          refine bodyPost_ret (results_cell_row rfl _ _ gb184 30 #[.slice none 0 0, .slice Ao77 x196001_2.length co77] (0, 0) _ rfl (by (with_reducible repeat (first | apply kdn | apply kdr | apply kal)); refine blk_put (cs := #[.slice none 0 0, .slice none 0 0]) ?_ 1 _ rfl; (with_reducible repeat (first | apply kdn | apply kdr | apply kal)); refine blk_put (cs := #[.slice none 0 0, .slice none 0 0]) ?_ 0 _ rfl; (with_reducible repeat (first | apply kdn | apply kdr | apply kal)); refine blk_far ?_ NB184_195.out _; (with_reducible repeat (first | apply kdn | apply kdr | apply kal)); exact BK184.out) Try.underlying30 rfl (by kernel_rfl)) rfl ?_
          exact ⟨_, _, by first | rfl | (simp [errW_none, errW_some] <;> rfl) | (simp [*, errW_none, errW_some] <;> rfl), by first | exact Kd.R_nil _ _ _ _ _ | exact Kd.N_nil _ _ _ _ _ | exact Kd.V_nil _ _ _ _ _ | exact Kd.Q_nil _ _ _ _ _ | exact Kd.S_nil _ _ _ _ _, by (with_reducible repeat (first | apply kra | apply krn | apply krd)); exact Kd.R_mono (kfa (p := ⟨gb184, 1, none⟩) (kfa (p := ⟨gb184, 0, none⟩) (kfa (p := ⟨gb195, 0, none⟩) (Kd.R_types (Kd.R_types HO_196001.out BK195.out (by decide)) BK184.out (by decide)) (fun _ hk => hk.1.2) (.slice none 0 0)) (fun _ hk => hk.2) (.slice none 0 0)) (fun _ hk => hk.2) (.slice Ao77 x196001_2.length co77)) (fun _ hk => trivial), by repeat (first | (with_reducible first | exact HI0.out | apply IsS139.alloc | apply IsS139.drewN | apply IsS139.drew | apply IsS139.set_1 | apply IsS139.set_2 | refine IsS139.far ?_ NB0_184.out _ | refine IsS139.far ?_ NB0_195.out _) | exact HI0.out), by repeat (first | (with_reducible first | exact HB.out | apply bal | apply pdn | apply bd1 | refine bst ?_ (IsS139.ge HI0.out) | refine bst ?_ GE184.out | refine bst ?_ GE195.out) | exact HB.out), by repeat (first | (with_reducible first | exact HK.out | apply KeepBut.set_ | apply keep_drewN | apply keep_drew | apply keep_alloc | refine keep_far ?_ GW184.out _ | refine keep_far ?_ GW195.out _) | exact HK.out)⟩
         ·rw [if_neg c70] at H
          have c70b0 : (t212 == 2) = false := beq_eq_false_iff_ne.mpr c70
          have c70b1 : (t212 != 2) = true := bne_iff_ne.mpr c70
          by_cases c78 : t212 = 3
          ·rw [if_pos c78] at H
           have c78b0 : (t212 == 3) = true := beq_iff_eq.mpr c78
           have c78b1 : (t212 != 3) = false := bne_eq_false_iff_eq.mpr c78
           clear c78
           have H' := am H
           clear H
           go_wp2_with (first | ((with_reducible refine gate_callee (f := 82) rfl ?_); refine goesL_ (some 49) rfl rfl Try.func82 (by kernel_rfl) rfl #[.pointer (some ⟨g, 0, none⟩), .int .i64 20] rfl (by (try simp only [mta, mco, mni]); first | done | rfl | (simp only [lnd, lnt]; rfl)) ?_; (with_reducible refine (spec_l00Src_pick.calls g s0_0 x1001_2 x1002_2 20 t212 t213 t214 w0 _ ?side1 ?side2 A33.out).mono ?_); (case side1 => repeat (first | (with_reducible first | exact HI0.out | apply IsS139.alloc | apply IsS139.drewN | apply IsS139.drew | apply IsS139.set_1 | apply IsS139.set_2 | refine IsS139.far ?_ NB0_184.out _ | refine IsS139.far ?_ NB0_195.out _) | exact HI0.out)); (case side2 => repeat (first | (with_reducible first | exact HB.out | apply bal | apply pdn | apply bd1 | refine bst ?_ (IsS139.ge HI0.out) | refine bst ?_ GE184.out | refine bst ?_ GE195.out) | exact HB.out)); rintro e w79 ⟨rfl, hi, hb, hk⟩; refine ⟨_, rfl, ?_⟩; have n0_ := am (Kd.R_mono (Kd.R_keep (IsS139.apart (show IsS139 w0 _ g s0_0 x1001_2 x1002_2 from by repeat (first | (with_reducible first | exact HI0.out | apply IsS139.alloc | apply IsS139.drewN | apply IsS139.drew | apply IsS139.set_1 | apply IsS139.set_2 | refine IsS139.far ?_ NB0_184.out _ | refine IsS139.far ?_ NB0_195.out _) | exact HI0.out)) (by (with_reducible repeat (first | apply kra | apply krn | apply krd)); exact HO_196000.out) (by decide)) hk (fun _ h => h.2)) (fun _ h => h.1)); have n1_ := am (Kd.R_mono (Kd.R_keep (IsS139.apart (show IsS139 w0 _ g s0_0 x1001_2 x1002_2 from by repeat (first | (with_reducible first | exact HI0.out | apply IsS139.alloc | apply IsS139.drewN | apply IsS139.drew | apply IsS139.set_1 | apply IsS139.set_2 | refine IsS139.far ?_ NB0_184.out _ | refine IsS139.far ?_ NB0_195.out _) | exact HI0.out)) (by (with_reducible repeat (first | apply kra | apply krn | apply krd)); exact HO_196001.out) (by decide)) hk (fun _ h => h.2)) (fun _ h => h.1)); have n2_ := am (KeepBut.blk hk (g' := gb184) (o := .cells #[.slice none 0 0, .slice none 0 0] 30 (0, 0)) (by (with_reducible repeat (first | apply kdn | apply kdr | apply kal)); exact BK184.out) NB184_0.out (by simp)); have n3_ := am (KeepBut.blk hk (g' := gb195) (o := .cells #[u196000, u196001] 30 (0, 0)) (by (with_reducible repeat (first | apply kdn | apply kdr | apply kal)); exact BK195.out) NB195_0.out (by simp)); have n4_ := am (KeepBut.trans (by repeat (first | (with_reducible first | exact HK.out | apply KeepBut.set_ | apply keep_drewN | apply keep_drew | apply keep_alloc | refine keep_far ?_ GW184.out _ | refine keep_far ?_ GW195.out _) | exact HK.out)) hk (.inl rfl)); have n5_ := am (hb); have n6_ := am (hi); clear HO_196000; clear HO_196001; clear BK184; clear BK195; clear HK; clear HB; clear HI0; have HO_196000 := n0_; have HO_196001 := n1_; have BK184 := n2_; have BK195 := n3_; have HK := n4_; have HB := n5_; have HI0 := n6_; clear n0_ n1_ n2_ n3_ n4_ n5_ n6_; (try clear hb); (try clear hb2); (try clear hk); (try clear hi)))
           go_loopg [] k2 (fun kq w' => ∃ (x1001_3 : Int) (x1002_3 : Int) (x196001_3 : List (S55)) (u196001 : Value), Aside0 (spec_l14Disk.l2 kq s0_0 x1001_3 x1002_3 x196000_1 x196001_3 = some (r1, r2, r3, r4)) ∧ Aside0 (kq ≤ k2) ∧ Aside0 (Kd.R Kd.string 9 w' w.heap.size (fun _ => True) u196000 x196000_1) ∧ Aside0 (Kd.R k55 55 w' w.heap.size (fun _ => True) u196001 x196001_3) ∧ Aside0 (w'.heap[gb184]? = some (.cells #[(.slice none 0 0), (.slice none 0 0)] 30 (0, 0))) ∧ Aside0 (w'.heap[gb195]? = some (.cells #[u196000, u196001] 30 (0, 0))) ∧ Aside0 (IsS139 w0 w' g s0_0 x1001_3 x1002_3) ∧ Aside0 (KeepBut w w' g none) ∧ Aside0 (Below w0.heap.size w0 w'))
           case atStart => exact ⟨(t213), (t214), (x196001_2), (u196001), H', ⟨Nat.le_refl _⟩, ⟨by (with_reducible repeat (first | apply kra | apply krn | apply krd)); exact HO_196000.out⟩, ⟨by (with_reducible repeat (first | apply kra | apply krn | apply krd)); exact HO_196001.out⟩, ⟨by (with_reducible repeat (first | apply kdn | apply kdr | apply kal)); exact BK184.out⟩, ⟨by (with_reducible repeat (first | apply kdn | apply kdr | apply kal)); exact BK195.out⟩, ⟨by repeat (first | (with_reducible first | exact HI0.out | apply IsS139.alloc | apply IsS139.drewN | apply IsS139.drew | apply IsS139.set_1 | apply IsS139.set_2 | refine IsS139.far ?_ NB0_184.out _ | refine IsS139.far ?_ NB0_195.out _) | exact HI0.out)⟩, ⟨by repeat (first | (with_reducible first | exact HK.out | apply KeepBut.set_ | apply keep_drewN | apply keep_drew | apply keep_alloc | refine keep_far ?_ GW184.out _ | refine keep_far ?_ GW195.out _) | exact HK.out)⟩, ⟨by repeat (first | (with_reducible first | exact HB.out | apply bal | apply pdn | apply bd1 | refine bst ?_ (IsS139.ge HI0.out) | refine bst ?_ GE184.out | refine bst ?_ GE195.out) | exact HB.out)⟩⟩
           case round =>
            clear H'
            obtain ⟨x1001_3, x1002_3, x196001_3, u196001, HA, HK3, HO_196000, HO_196001, BK184, BK195, HI0, HK, HB⟩ := hrel
            cases gk with
            | zero => exact absurd HA.out (by simp [spec_l14Disk.l2])
            | succ k3 =>
             have H := HA.out
             clear HA
             simp only [spec_l14Disk.l2] at H
             replace H := Option.bind_eq_some_iff.mp H
             obtain ⟨⟨t229, t230, t231⟩, A800, H⟩ := H
             replace H : (if (x196001_3.length : Int) < (wrap64 (599 + t229)) then (if 0 < (x196000_1.length : Int) then (if x196001_3.length < 5864062014805 then (spec_l14Disk.l2 k3 s0_0 t230 t231 x196000_1 (x196001_3 ++ [(⟨0, rdOf ByteArray.empty x196000_1 0⟩ : S55)])) else (none)) else (none)) else (some (x196000_1, x196001_3, t230, t231))) = some (r1, r2, r3, r4) := H
             have A80 := am A800
             clear A800
             by_cases c81 : (x196001_3.length : Int) < (wrap64 (599 + t229))
             ·rw [if_pos c81] at H
              have c81b0 : decide ((x196001_3.length : Int) < (wrap64 (599 + t229))) = true := decide_eq_true c81
              clear c81
              by_cases c82 : 0 < (x196000_1.length : Int)
              ·rw [if_pos c82] at H
               have c82b0 : decide (0 < (x196000_1.length : Int)) = true := decide_eq_true c82
               have c82b1 : decide (0 < x196000_1.length) = true := decide_eq_true (by omega)
               clear c82
               by_cases c83 : x196001_3.length < 5864062014805
               ·rw [if_pos c83] at H
                have LMc83 := am c83
                clear c83
                obtain ⟨y233, hy233⟩ : ∃ y_ : List (S55), y_ = (x196001_3 ++ [(⟨0, rdOf ByteArray.empty x196000_1 0⟩ : S55)]) := ⟨_, rfl⟩
                replace H : (spec_l14Disk.l2 k3 s0_0 t230 t231 x196000_1 y233) = some (r1, r2, r3, r4) := by first | (rw [hy233]; with_reducible exact H) | (have H2_ := (Option.bind_some _ _).symm.trans H; rw [hy233]; with_reducible exact H2_) | (have H2_ := (Option.bind_some _ _).symm.trans H; with_reducible exact H2_) | with_reducible exact H | (rw [hy233]; exact H) | exact H
                have Ny233 := am hy233
                clear hy233
                have H' := am H
                clear H
                try go_wp2
                have n0_ := am (krd HO_196000.out)
                have n1_ := am (krd HO_196001.out)
                have n2_ := am (kdr BK184.out)
                have n3_ := am (kdr BK195.out)
                have n4_ := am (IsS139.drew HI0.out)
                have n5_ := am (keep_drew HK.out)
                have n6_ := am (bd1 HB.out)
                clear HO_196000
                clear HO_196001
                clear BK184
                clear BK195
                clear HI0
                clear HK
                clear HB
                have HO_196000 := n0_
                have HO_196001 := n1_
                have BK184 := n2_
                have BK195 := n3_
                have HI0 := n4_
                have HK := n5_
                have HB := n6_
                clear n0_ n1_ n2_ n3_ n4_ n5_ n6_
                obtain ⟨Ao85, co85, eo85⟩ := Kd.R_slice HO_196001.out
                (first | subst eo85 | (injection eo85 with f1_ f2_ f3_; have f4_ := f1_.symm; have f5_ := f3_.symm; clear f1_ f2_ f3_; subst f4_; subst f5_))
                refine start_ (n := 7) (S := fun w' => w'.cell? ⟨gb195, 0, none⟩ = some (u196000) ∧ w'.cell? ⟨gb195, 1, none⟩ = some (.slice Ao85 x196001_3.length co85)) (ds := []) #[false, false, false, false, false, false, false] (by kernel_rfl) rfl rfl ⟨(kce BK195.out 0).trans rfl, (kce BK195.out 1).trans rfl⟩ (fun hHeld => ?_)
                generalize wr.drew = w84 at HO_196000 HO_196001 BK184 BK195 HI0 HK HB hHeld ⊢
                refine pure_ (i := 0) (N := some 81) (v := ?_) (a' := ?_) #[true, false, false, false, false, false, false] rfl rfl (by kernel_rfl) (fun _ _ _ h => h) (Or.inl ⟨by rfl, ?_⟩) ?_ ?_
                rotate_left
                ·intro w'
                 go_simp
                 with_reducible rfl
                rotate_left
                ·simp only [Act.put, sit, scz, scs, i64_w, i32_w]
                 rfl
                refine pure_ (i := 3) (N := some 84) (v := ?_) (a' := ?_) #[true, false, false, true, false, false, false] rfl rfl (by kernel_rfl) (fun _ _ _ h => h) (Or.inl ⟨by rfl, ?_⟩) ?_ ?_
                rotate_left
                ·intro w'
                 go_simp
                 with_reducible rfl
                rotate_left
                ·simp only [Act.put, sit, scz, scs, i64_w, i32_w]
                 rfl
                refine take_ (i := 1) (N := some 82) (v := ?_) (a' := ?_) #[true, true, false, true, false, false, false] rfl rfl (by kernel_rfl) (fun _ _ _ h => h) (Or.inl ⟨by rfl, ?_⟩) hHeld ?_ ?_
                rotate_left
                ·rintro w' ⟨s0, s1⟩
                 go_simp
                 with_reducible rfl
                rotate_left
                ·simp only [Act.put, sit, scz, scs, i64_w, i32_w]
                 rfl
                refine pure_ (i := 2) (N := some 83) (v := ?_) (a' := ?_) #[true, true, true, true, false, false, false] rfl rfl (by kernel_rfl) (fun _ _ _ h => h) (Or.inl ⟨by rfl, ?_⟩) ?_ ?_
                rotate_left
                ·intro w'
                 go_simp
                 with_reducible rfl
                rotate_left
                ·simp only [Act.put, sit, scz, scs, i64_w, i32_w]
                 rfl
                refine one_ (i := 4) (N := some 85) #[true, true, true, true, true, false, false] rfl rfl (by kernel_rfl) (by decide) (fun K hK => ?_)
                refine goes_ Try.func82 (by kernel_rfl) rfl #[.pointer (some ⟨g, 0, none⟩), .int .i64 3] (by rfl) rfl rfl (by (try simp only [mta, mco, mni]); first | done | rfl | (simp only [lnd, lnt]; rfl)) ?_
                with_reducible refine (spec_l00Src_pick.calls g s0_0 x1001_3 x1002_3 3 t229 t230 t231 w0 _ ?side1 ?side2 A80.out).mono ?_
                (case side1 => repeat (first | (with_reducible first | exact HI0.out | apply IsS139.alloc | apply IsS139.drewN | apply IsS139.drew | apply IsS139.set_1 | apply IsS139.set_2 | refine IsS139.far ?_ NB0_184.out _ | refine IsS139.far ?_ NB0_195.out _) | exact HI0.out))
                (case side2 => repeat (first | (with_reducible first | exact HB.out | apply bal | apply pdn | apply bd1 | refine bst ?_ (IsS139.ge HI0.out) | refine bst ?_ GE184.out | refine bst ?_ GE195.out) | exact HB.out))
                rintro e w86 ⟨rfl, hi, hb, hk⟩
                refine ⟨_, rfl, ?_⟩
                have n0_ := am (Kd.R_mono (Kd.R_keep (IsS139.apart (show IsS139 w0 _ g s0_0 x1001_3 x1002_3 from by repeat (first | (with_reducible first | exact HI0.out | apply IsS139.alloc | apply IsS139.drewN | apply IsS139.drew | apply IsS139.set_1 | apply IsS139.set_2 | refine IsS139.far ?_ NB0_184.out _ | refine IsS139.far ?_ NB0_195.out _) | exact HI0.out)) (by (with_reducible repeat (first | apply kra | apply krn | apply krd)); exact HO_196000.out) (by decide)) hk (fun _ h => h.2)) (fun _ h => h.1))
                have n1_ := am (Kd.R_mono (Kd.R_keep (IsS139.apart (show IsS139 w0 _ g s0_0 x1001_3 x1002_3 from by repeat (first | (with_reducible first | exact HI0.out | apply IsS139.alloc | apply IsS139.drewN | apply IsS139.drew | apply IsS139.set_1 | apply IsS139.set_2 | refine IsS139.far ?_ NB0_184.out _ | refine IsS139.far ?_ NB0_195.out _) | exact HI0.out)) (by (with_reducible repeat (first | apply kra | apply krn | apply krd)); exact HO_196001.out) (by decide)) hk (fun _ h => h.2)) (fun _ h => h.1))
                have n2_ := am (KeepBut.blk hk (g' := gb184) (o := .cells #[.slice none 0 0, .slice none 0 0] 30 (0, 0)) (by (with_reducible repeat (first | apply kdn | apply kdr | apply kal)); exact BK184.out) NB184_0.out (by simp))
                have n3_ := am (KeepBut.blk hk (g' := gb195) (o := .cells #[u196000, .slice Ao85 x196001_3.length co85] 30 (0, 0)) (by (with_reducible repeat (first | apply kdn | apply kdr | apply kal)); exact BK195.out) NB195_0.out (by simp))
                have n4_ := am (KeepBut.trans (by repeat (first | (with_reducible first | exact HK.out | apply KeepBut.set_ | apply keep_drewN | apply keep_drew | apply keep_alloc | refine keep_far ?_ GW184.out _ | refine keep_far ?_ GW195.out _) | exact HK.out)) hk (.inl rfl))
                have n5_ := am (hb)
                have n6_ := am (hi)
                clear HO_196000
                clear HO_196001
                clear BK184
                clear BK195
                clear HK
                clear HB
                clear HI0
                have HO_196000 := n0_
                have HO_196001 := n1_
                have BK184 := n2_
                have BK195 := n3_
                have HK := n4_
                have HB := n5_
                have HI0 := n6_
                clear n0_ n1_ n2_ n3_ n4_ n5_ n6_
                refine hK.out _ _ ⟨(kce BK195.out 0).trans rfl, (kce BK195.out 1).trans rfl⟩ (fun hHeld => ?_)
                clear hK K
                refine norm_ (a' := ?_) ?_ ?_
                rotate_left
                ·show Act.put _ (some 85) _ = _
                 simp only [Act.put, sit, scz, scs, i64_w, i32_w]
                 rfl
                refine pure_ (i := 5) (N := some 86) (v := ?_) (a' := ?_) #[true, true, true, true, true, true, false] rfl rfl (by kernel_rfl) (fun _ _ _ h => h) (Or.inl ⟨by rfl, ?_⟩) ?_ ?_
                rotate_left
                ·intro w'
                 go_simp
                 with_reducible rfl
                rotate_left
                ·simp only [Act.put, sit, scz, scs, i64_w, i32_w]
                 rfl
                refine pure_ (i := 6) (N := some 87) (v := ?_) (a' := ?_) #[true, true, true, true, true, true, true] rfl rfl (by kernel_rfl) (fun _ _ _ h => h) (Or.inl ⟨by rfl, ?_⟩) ?_ ?_
                rotate_left
                ·intro w'
                 go_simp
                 with_reducible rfl
                rotate_left
                ·simp only [Act.put, sit, scz, scs, i64_w, i32_w]
                 rfl
                refine done_ (by kernel_rfl) ?_
                try go_wp2
                have n0_ := am (krd HO_196000.out)
                have n1_ := am (krd HO_196001.out)
                have n2_ := am (kdr BK184.out)
                have n3_ := am (kdr BK195.out)
                have n4_ := am (IsS139.drew HI0.out)
                have n5_ := am (keep_drew HK.out)
                have n6_ := am (bd1 HB.out)
                clear HO_196000
                clear HO_196001
                clear BK184
                clear BK195
                clear HI0
                clear HK
                clear HB
                have HO_196000 := n0_
                have HO_196001 := n1_
                have BK184 := n2_
                have BK195 := n3_
                have HI0 := n4_
                have HK := n5_
                have HB := n6_
                clear n0_ n1_ n2_ n3_ n4_ n5_ n6_
                obtain ⟨Ao88, co88, eo88⟩ := Kd.R_slice HO_196000.out
                (first | subst eo88 | (injection eo88 with f1_ f2_ f3_; have f4_ := f1_.symm; have f5_ := f3_.symm; clear f1_ f2_ f3_; subst f4_; subst f5_))
                have p232 : 0 ≤ (0 : Int) := (by omega)
                have q232 : 0 < (x196000_1.length : Int) := of_decide_eq_true (by first | (with_reducible assumption) | assumption)
                obtain ⟨ad232, e232, hx232_0⟩ := Kd.at_string (Kd.R_reads' HO_196000.out).2.2 0 p232 q232
                cases e232
                have qi232 : (0 < x196000_1.length) = True := eq_true (by omega)
                (try rw [show ((0 : Int)).toNat = 0 from rfl] at hx232_0)
                (try rw [Addr.add_zero'] at hx232_0)
                replace p232 := eq_true p232
                replace q232 := eq_true q232
                refine start_ (n := 11) (S := fun w' => w'.cell? ⟨gb195, 0, none⟩ = some (.slice (some ad232) x196000_1.length co88) ∧ w'.cell? ⟨gb195, 1, none⟩ = some (.slice Ao85 x196001_3.length co85) ∧ w'.cell? ad232 = some (.string (rdOf ByteArray.empty x196000_1 0))) (ds := [8, 10]) #[false, false, false, false, false, false, false, false, false, false, false] (by kernel_rfl) rfl rfl ⟨(kce BK195.out 0).trans rfl, (kce BK195.out 1).trans rfl, hx232_0⟩ (fun hHeld => ?_); refine with_tabW spec_l14Disk.tab21 spec_l14Disk.bits21 (fun HT_ HW_ => ?_)
                generalize w86.drew = w87 at HO_196000 HO_196001 BK184 BK195 HI0 HK HB hx232_0 hHeld ⊢
                refine pure_ (i := 0) (N := some 88) (v := ?_) (a' := ?_) #[true, false, false, false, false, false, false, false, false, false, false] rfl rfl (any_of HT_.out (by kernel_rfl)) (fun _ _ _ h => h) (Or.inl ⟨by rfl, ?_⟩) ?_ ?_
                rotate_left
                ·intro w'
                 go_simp
                 with_reducible rfl
                rotate_left
                ·simp only [Act.put, sit, scz, scs, i64_w, i32_w]
                 rfl
                refine pure_ (i := 2) (N := some 90) (v := ?_) (a' := ?_) #[true, false, true, false, false, false, false, false, false, false, false] rfl rfl (any_of HT_.out (by kernel_rfl)) (fun _ _ _ h => h) (Or.inl ⟨by rfl, ?_⟩) ?_ ?_
                rotate_left
                ·intro w'
                 go_simp
                 with_reducible rfl
                rotate_left
                ·simp only [Act.put, sit, scz, scs, i64_w, i32_w]
                 rfl
                refine take_ (i := 1) (N := some 89) (v := ?_) (a' := ?_) #[true, true, true, false, false, false, false, false, false, false, false] rfl rfl (take_ofW HT_.out HW_.out (by kernel_rfl)) (fun _ _ _ h => h) (Or.inl ⟨by rfl, ?_⟩) hHeld ?_ ?_
                rotate_left
                ·rintro w' ⟨s0, s1, s2⟩
                 go_simp
                 with_reducible rfl
                rotate_left
                ·simp only [Act.put, sit, scz, scs, i64_w, i32_w]
                 rfl
                refine take_ (i := 3) (N := some 91) (v := ?_) (a' := ?_) #[true, true, true, true, false, false, false, false, false, false, false] rfl rfl (take_ofW HT_.out HW_.out (by kernel_rfl)) (fun _ _ _ h => h) (Or.inl ⟨by rfl, ?_⟩) hHeld ?_ ?_
                rotate_left
                ·rintro w' ⟨s0, s1, s2⟩
                 go_simp
                 with_reducible rfl
                rotate_left
                ·simp only [Act.put, sit, scz, scs, i64_w, i32_w]
                 rfl
                refine pure_ (i := 4) (N := some 92) (v := ?_) (a' := ?_) #[true, true, true, true, true, false, false, false, false, false, false] rfl rfl (any_of HT_.out (by kernel_rfl)) (fun _ _ _ h => h) (Or.inl ⟨by rfl, ?_⟩) ?_ ?_
                rotate_left
                ·intro w'
                 go_simp
                 with_reducible rfl
                rotate_left
                ·simp only [Act.put, sit, scz, scs, i64_w, i32_w]
                 rfl
                refine take_ (i := 5) (N := some 93) (v := ?_) (a' := ?_) #[true, true, true, true, true, true, false, false, false, false, false] rfl rfl (take_ofW HT_.out HW_.out (by kernel_rfl)) (fun _ _ _ h => h) (Or.inl ⟨by rfl, ?_⟩) hHeld ?_ ?_
                rotate_left
                ·rintro w' ⟨s0, s1, s2⟩
                 go_simp
                 with_reducible rfl
                rotate_left
                ·simp only [Act.put, sit, scz, scs, i64_w, i32_w]
                 rfl
                refine pure_ (i := 6) (N := some 94) (v := ?_) (a' := ?_) #[true, true, true, true, true, true, true, false, false, false, false] rfl rfl (any_of HT_.out (by kernel_rfl)) (fun _ _ _ h => h) (Or.inl ⟨by rfl, ?_⟩) ?_ ?_
                rotate_left
                ·intro w'
                 go_simp
                 with_reducible rfl
                rotate_left
                ·simp only [Act.put, sit, scz, scs, i64_w, i32_w]
                 rfl
                refine one_ (i := 7) (N := some 95) #[true, true, true, true, true, true, true, true, false, false, false] rfl rfl (one_of HT_.out (by kernel_rfl)) (by decide) (fun K hK => ?_)
                refine value_ (w1 := ?_) (v := ?_) (by rfl) rfl ?_ ?_
                rotate_left 2
                ·go_simp
                 constructor
                 ·rfl
                 ·rfl
                refine hK.out _ _ ⟨(kce (kal BK195.out _) 0).trans rfl, (kce (kal BK195.out _) 1).trans rfl, (World.cell?_alloc_lt _ _ _ (blc _ _ (hHeld.2.2))).trans (hHeld.2.2)⟩ (fun hHeld => ?_)
                clear hK K
                refine norm_ (a' := ?_) ?_ ?_
                rotate_left
                ·show Act.put _ (some 95) _ = _
                 simp only [Act.put, sit, scz, scs, i64_w, i32_w]
                 rfl
                refine last_ (i := 8) (N := some 96) #[true, true, true, true, true, true, true, true, true, false, false] rfl rfl (one_of HT_.out (by kernel_rfl)) (by decide) (fun K hK => ?_)
                refine Kd.R_append_step k55 w.heap.size (by rfl) (.tmp 89) (.tmp 95) 28 55 (.agg #[(.int .i64 0), (.string ⟨#[]⟩)]) 24 rfl Try.underlying28 info55 rfl (by decide) (by omega) (.slice Ao85 x196001_3.length co85) x196001_3 (⟨0, rdOf ByteArray.empty x196000_1 0⟩ : S55) [.int .i64 0, .string (rdOf ByteArray.empty x196000_1 0)] (fun _ => True) (fun _ => False) rfl rfl ?aP (fun _ hk => hk.elim) ?aF ?aO (Below.refl _ _) ?aS ?aL ?_
                (case aP => exact k55_mkM _ _ _ (⟨0, rdOf ByteArray.empty x196000_1 0⟩ : S55))
                (case aF => exact (fun _ _ => trivial))
                (case aO => exact (by (with_reducible repeat (first | apply kra | apply krn | apply krd)); exact HO_196001.out))
                (case aS => exact (keep_size (w := w) (g := g) (row := none) (by repeat (first | (with_reducible first | exact HK.out | apply KeepBut.set_ | apply keep_drewN | apply keep_drew | apply keep_alloc | refine keep_far ?_ GW184.out _ | refine keep_far ?_ GW195.out _) | exact HK.out))))
                (case aL => have := LMc83.out; omega)
                intro v234 w89 ho hb hg hat
                rw [← Ny233.out] at ho
                have n0_ := am (Kd.R_over' (by (with_reducible repeat (first | apply kra | apply krn | apply krd)); exact HO_196000.out) (Kd.R_typed (by (with_reducible repeat (first | apply kra | apply krn | apply krd)); exact HO_196001.out)) (by decide) hg)
                have n1_ := am (blk_grown (g := gb184) (o := .cells #[.slice none 0 0, .slice none 0 0] 30 (0, 0)) (by (with_reducible repeat (first | apply kdn | apply kdr | apply kal)); exact BK184.out) hg (Kd.R_ne HO_196001.out BK184.out (by decide)))
                have n2_ := am (blk_grown (g := gb195) (o := .cells #[.slice (some ad232) x196000_1.length co88, .slice Ao85 x196001_3.length co85] 30 (0, 0)) (by (with_reducible repeat (first | apply kdn | apply kdr | apply kal)); exact BK195.out) hg (Kd.R_ne HO_196001.out BK195.out (by decide)))
                have n3_ := am (IsS139.grown (by repeat (first | (with_reducible first | exact HI0.out | apply IsS139.alloc | apply IsS139.drewN | apply IsS139.drew | apply IsS139.set_1 | apply IsS139.set_2 | refine IsS139.far ?_ NB0_184.out _ | refine IsS139.far ?_ NB0_195.out _) | exact HI0.out)) hg (IsS139.own_ne HI0.out HO_196001.out (by decide)))
                have n4_ := am (below_weaken (by repeat (first | (with_reducible first | exact HB.out | apply bal | apply pdn | apply bd1 | refine bst ?_ (IsS139.ge HI0.out) | refine bst ?_ GE184.out | refine bst ?_ GE195.out) | exact HB.out)) HL.out hb)
                have n5_ := am (KeepBut.trans (by repeat (first | (with_reducible first | exact HK.out | apply KeepBut.set_ | apply keep_drewN | apply keep_drew | apply keep_alloc | refine keep_far ?_ GW184.out _ | refine keep_far ?_ GW195.out _) | exact HK.out)) (KeepBut.of_grown hg g) (Kd.R_base2 HO_196001.out))
                have n6_ := am (ho)
                clear HO_196000
                clear BK184
                clear BK195
                clear HI0
                clear HB
                clear HK
                clear HO_196001
                have HO_196000 := n0_
                have BK184 := n1_
                have BK195 := n2_
                have HI0 := n3_
                have HB := n4_
                have HK := n5_
                have HO235 := n6_
                clear n0_ n1_ n2_ n3_ n4_ n5_ n6_
                clear ho hb hg hat
                obtain ⟨Ao90, co90, eo90⟩ := Kd.R_slice HO235.out
                (first | subst eo90 | (injection eo90 with f1_ f2_ f3_; have f4_ := f1_.symm; have f5_ := f3_.symm; clear f1_ f2_ f3_; subst f4_; subst f5_))
                refine hK.out _ _ ?_
                clear hK K
                refine norm_ (a' := ?_) ?_ ?_
                rotate_left
                ·show Act.put _ (some 96) _ = _
                 simp only [Act.put, sit, scz, scs, i64_w, i32_w]
                 rfl
                refine pure_ (i := 9) (N := some 97) (v := ?_) (a' := ?_) #[true, true, true, true, true, true, true, true, true, true, false] rfl rfl (any_of HT_.out (by kernel_rfl)) (fun _ _ _ h => h) (Or.inl ⟨by rfl, ?_⟩) ?_ ?_
                rotate_left
                ·intro w'
                 go_simp
                 with_reducible rfl
                rotate_left
                ·simp only [Act.put, sit, scz, scs, i64_w, i32_w]
                 rfl
                refine last_ (i := 10) (N := none) #[true, true, true, true, true, true, true, true, true, true, true] rfl rfl (one_of HT_.out (by kernel_rfl)) (by decide) (fun K hK => ?_)
                have hs91 : w89.cell? ⟨gb195, 1, none⟩ = some (.slice Ao85 x196001_3.length co85) := (kce BK195.out 1).trans rfl
                have hfs91 := kfr BK195.out 1
                have hns91_0 := NB184_195.out
                have hms91_0 := NB195_184.out
                refine skip_ (w1 := ?_) (by rfl) rfl ?_ ?_
                rotate_left
                ·go_simp
                 rfl
                refine hK.out _ _ ?_
                clear hK K
                refine done_ (done_of HT_.out (by kernel_rfl)) ?_
                try go_wp2
                go_roundg k3
                case measure => have := HK1.out; have := HK2.out; have := HK3.out; omega
                case rel => exact ⟨(t230), (t231), (y233), (.slice Ao90 y233.length co90), H', ⟨by have := HK1.out; have := HK2.out; have := HK3.out; omega⟩, ⟨by (with_reducible repeat (first | apply kra | apply krn | apply krd)); exact Kd.R_mono (kfa (p := ⟨gb195, 1, none⟩) (Kd.R_types HO_196000.out BK195.out (by decide)) (fun _ hk => hk.2) (.slice Ao90 y233.length co90)) (fun _ hk => trivial)⟩, ⟨by (with_reducible repeat (first | apply kra | apply krn | apply krd)); exact Kd.R_mono (kfa (p := ⟨gb195, 1, none⟩) (Kd.R_types HO235.out BK195.out (by decide)) (fun _ hk => hk.2) (.slice Ao90 y233.length co90)) (fun _ hk => trivial)⟩, ⟨by (with_reducible repeat (first | apply kdn | apply kdr | apply kal)); refine blk_far ?_ NB184_195.out _; (with_reducible repeat (first | apply kdn | apply kdr | apply kal)); exact BK184.out⟩, ⟨by (with_reducible repeat (first | apply kdn | apply kdr | apply kal)); refine blk_put (cs := #[.slice (some ad232) x196000_1.length co88, .slice Ao85 x196001_3.length co85]) ?_ 1 _ rfl; (with_reducible repeat (first | apply kdn | apply kdr | apply kal)); exact BK195.out⟩, ⟨by repeat (first | (with_reducible first | exact HI0.out | apply IsS139.alloc | apply IsS139.drewN | apply IsS139.drew | apply IsS139.set_1 | apply IsS139.set_2 | refine IsS139.far ?_ NB0_184.out _ | refine IsS139.far ?_ NB0_195.out _) | exact HI0.out)⟩, ⟨by repeat (first | (with_reducible first | exact HK.out | apply KeepBut.set_ | apply keep_drewN | apply keep_drew | apply keep_alloc | refine keep_far ?_ GW184.out _ | refine keep_far ?_ GW195.out _) | exact HK.out)⟩, ⟨by repeat (first | (with_reducible first | exact HB.out | apply bal | apply pdn | apply bd1 | refine bst ?_ (IsS139.ge HI0.out) | refine bst ?_ GE184.out | refine bst ?_ GE195.out) | exact HB.out)⟩⟩
               ·rw [if_neg c83] at H
                exact absurd H (by simp)
              ·rw [if_neg c82] at H
               exact absurd H (by simp)
             ·rw [if_neg c81] at H
              have c81b0 : decide ((x196001_3.length : Int) < (wrap64 (599 + t229))) = false := decide_eq_false c81
              clear c81
              simp only [Option.some.injEq, Prod.mk.injEq] at H
              obtain ⟨rfl, rfl, rfl, rfl⟩ := H
              try go_wp2
              have n0_ := am (krd HO_196000.out)
              have n1_ := am (krd HO_196001.out)
              have n2_ := am (kdr BK184.out)
              have n3_ := am (kdr BK195.out)
              have n4_ := am (IsS139.drew HI0.out)
              have n5_ := am (keep_drew HK.out)
              have n6_ := am (bd1 HB.out)
              clear HO_196000
              clear HO_196001
              clear BK184
              clear BK195
              clear HI0
              clear HK
              clear HB
              have HO_196000 := n0_
              have HO_196001 := n1_
              have BK184 := n2_
              have BK195 := n3_
              have HI0 := n4_
              have HK := n5_
              have HB := n6_
              clear n0_ n1_ n2_ n3_ n4_ n5_ n6_
              obtain ⟨Ao93, co93, eo93⟩ := Kd.R_slice HO_196001.out
              (first | subst eo93 | (injection eo93 with f1_ f2_ f3_; have f4_ := f1_.symm; have f5_ := f3_.symm; clear f1_ f2_ f3_; subst f4_; subst f5_))
              refine start_ (n := 7) (S := fun w' => w'.cell? ⟨gb195, 0, none⟩ = some (u196000) ∧ w'.cell? ⟨gb195, 1, none⟩ = some (.slice Ao93 x196001_3.length co93)) (ds := []) #[false, false, false, false, false, false, false] (by kernel_rfl) rfl rfl ⟨(kce BK195.out 0).trans rfl, (kce BK195.out 1).trans rfl⟩ (fun hHeld => ?_)
              generalize wr.drew = w92 at HO_196000 HO_196001 BK184 BK195 HI0 HK HB hHeld ⊢
              refine pure_ (i := 0) (N := some 81) (v := ?_) (a' := ?_) #[true, false, false, false, false, false, false] rfl rfl (by kernel_rfl) (fun _ _ _ h => h) (Or.inl ⟨by rfl, ?_⟩) ?_ ?_
              rotate_left
              ·intro w'
               go_simp
               with_reducible rfl
              rotate_left
              ·simp only [Act.put, sit, scz, scs, i64_w, i32_w]
               rfl
              refine pure_ (i := 3) (N := some 84) (v := ?_) (a' := ?_) #[true, false, false, true, false, false, false] rfl rfl (by kernel_rfl) (fun _ _ _ h => h) (Or.inl ⟨by rfl, ?_⟩) ?_ ?_
              rotate_left
              ·intro w'
               go_simp
               with_reducible rfl
              rotate_left
              ·simp only [Act.put, sit, scz, scs, i64_w, i32_w]
               rfl
              refine take_ (i := 1) (N := some 82) (v := ?_) (a' := ?_) #[true, true, false, true, false, false, false] rfl rfl (by kernel_rfl) (fun _ _ _ h => h) (Or.inl ⟨by rfl, ?_⟩) hHeld ?_ ?_
              rotate_left
              ·rintro w' ⟨s0, s1⟩
               go_simp
               with_reducible rfl
              rotate_left
              ·simp only [Act.put, sit, scz, scs, i64_w, i32_w]
               rfl
              refine pure_ (i := 2) (N := some 83) (v := ?_) (a' := ?_) #[true, true, true, true, false, false, false] rfl rfl (by kernel_rfl) (fun _ _ _ h => h) (Or.inl ⟨by rfl, ?_⟩) ?_ ?_
              rotate_left
              ·intro w'
               go_simp
               with_reducible rfl
              rotate_left
              ·simp only [Act.put, sit, scz, scs, i64_w, i32_w]
               rfl
              refine one_ (i := 4) (N := some 85) #[true, true, true, true, true, false, false] rfl rfl (by kernel_rfl) (by decide) (fun K hK => ?_)
              refine goes_ Try.func82 (by kernel_rfl) rfl #[.pointer (some ⟨g, 0, none⟩), .int .i64 3] (by rfl) rfl rfl (by (try simp only [mta, mco, mni]); first | done | rfl | (simp only [lnd, lnt]; rfl)) ?_
              with_reducible refine (spec_l00Src_pick.calls g s0_0 x1001_3 x1002_3 3 t229 t230 t231 w0 _ ?side1 ?side2 A80.out).mono ?_
              (case side1 => repeat (first | (with_reducible first | exact HI0.out | apply IsS139.alloc | apply IsS139.drewN | apply IsS139.drew | apply IsS139.set_1 | apply IsS139.set_2 | refine IsS139.far ?_ NB0_184.out _ | refine IsS139.far ?_ NB0_195.out _) | exact HI0.out))
              (case side2 => repeat (first | (with_reducible first | exact HB.out | apply bal | apply pdn | apply bd1 | refine bst ?_ (IsS139.ge HI0.out) | refine bst ?_ GE184.out | refine bst ?_ GE195.out) | exact HB.out))
              rintro e w94 ⟨rfl, hi, hb, hk⟩
              refine ⟨_, rfl, ?_⟩
              have n0_ := am (Kd.R_mono (Kd.R_keep (IsS139.apart (show IsS139 w0 _ g s0_0 x1001_3 x1002_3 from by repeat (first | (with_reducible first | exact HI0.out | apply IsS139.alloc | apply IsS139.drewN | apply IsS139.drew | apply IsS139.set_1 | apply IsS139.set_2 | refine IsS139.far ?_ NB0_184.out _ | refine IsS139.far ?_ NB0_195.out _) | exact HI0.out)) (by (with_reducible repeat (first | apply kra | apply krn | apply krd)); exact HO_196000.out) (by decide)) hk (fun _ h => h.2)) (fun _ h => h.1))
              have n1_ := am (Kd.R_mono (Kd.R_keep (IsS139.apart (show IsS139 w0 _ g s0_0 x1001_3 x1002_3 from by repeat (first | (with_reducible first | exact HI0.out | apply IsS139.alloc | apply IsS139.drewN | apply IsS139.drew | apply IsS139.set_1 | apply IsS139.set_2 | refine IsS139.far ?_ NB0_184.out _ | refine IsS139.far ?_ NB0_195.out _) | exact HI0.out)) (by (with_reducible repeat (first | apply kra | apply krn | apply krd)); exact HO_196001.out) (by decide)) hk (fun _ h => h.2)) (fun _ h => h.1))
              have n2_ := am (KeepBut.blk hk (g' := gb184) (o := .cells #[.slice none 0 0, .slice none 0 0] 30 (0, 0)) (by (with_reducible repeat (first | apply kdn | apply kdr | apply kal)); exact BK184.out) NB184_0.out (by simp))
              have n3_ := am (KeepBut.blk hk (g' := gb195) (o := .cells #[u196000, .slice Ao93 x196001_3.length co93] 30 (0, 0)) (by (with_reducible repeat (first | apply kdn | apply kdr | apply kal)); exact BK195.out) NB195_0.out (by simp))
              have n4_ := am (KeepBut.trans (by repeat (first | (with_reducible first | exact HK.out | apply KeepBut.set_ | apply keep_drewN | apply keep_drew | apply keep_alloc | refine keep_far ?_ GW184.out _ | refine keep_far ?_ GW195.out _) | exact HK.out)) hk (.inl rfl))
              have n5_ := am (hb)
              have n6_ := am (hi)
              clear HO_196000
              clear HO_196001
              clear BK184
              clear BK195
              clear HK
              clear HB
              clear HI0
              have HO_196000 := n0_
              have HO_196001 := n1_
              have BK184 := n2_
              have BK195 := n3_
              have HK := n4_
              have HB := n5_
              have HI0 := n6_
              clear n0_ n1_ n2_ n3_ n4_ n5_ n6_
              refine hK.out _ _ ⟨(kce BK195.out 0).trans rfl, (kce BK195.out 1).trans rfl⟩ (fun hHeld => ?_)
              clear hK K
              refine norm_ (a' := ?_) ?_ ?_
              rotate_left
              ·show Act.put _ (some 85) _ = _
               simp only [Act.put, sit, scz, scs, i64_w, i32_w]
               rfl
              refine pure_ (i := 5) (N := some 86) (v := ?_) (a' := ?_) #[true, true, true, true, true, true, false] rfl rfl (by kernel_rfl) (fun _ _ _ h => h) (Or.inl ⟨by rfl, ?_⟩) ?_ ?_
              rotate_left
              ·intro w'
               go_simp
               with_reducible rfl
              rotate_left
              ·simp only [Act.put, sit, scz, scs, i64_w, i32_w]
               rfl
              refine pure_ (i := 6) (N := some 87) (v := ?_) (a' := ?_) #[true, true, true, true, true, true, true] rfl rfl (by kernel_rfl) (fun _ _ _ h => h) (Or.inl ⟨by rfl, ?_⟩) ?_ ?_
              rotate_left
              ·intro w'
               go_simp
               with_reducible rfl
              rotate_left
              ·simp only [Act.put, sit, scz, scs, i64_w, i32_w]
               rfl
              refine done_ (by kernel_rfl) ?_
              have hnb95 := NB195_184.out
              have hnc95 := NB184_195.out
              have hnb96 := NB195_0.out
              have hnc96 := NB0_195.out
              have hcz97_0 : w94.cell? ⟨gb195, 0, none⟩ = some (u196000) := (kce BK195.out 0).trans rfl
              have hcz97_1 : w94.cell? ⟨gb195, 1, none⟩ = some (.slice Ao93 x196001_3.length co93) := (kce BK195.out 1).trans rfl
              have hfz97_0 := kfr BK195.out 0
              have hfz97_1 := kfr BK195.out 1
              obtain ⟨Ao98, co98, eo98⟩ := Kd.R_slice HO_196000.out
              subst eo98
              have hnb99 := NB184_0.out
              have hnc99 := NB0_184.out
              have hcz100_0 : w94.cell? ⟨gb184, 0, none⟩ = some (.slice none 0 0) := (kce BK184.out 0).trans rfl
              have hcz100_1 : w94.cell? ⟨gb184, 1, none⟩ = some (.slice none 0 0) := (kce BK184.out 1).trans rfl
              have hfz100_0 := kfr BK184.out 0
              have hfz100_1 := kfr BK184.out 1
              try go_wp2
              refine bodyPost_ret (results_cell_row rfl _ _ gb184 30 #[.slice Ao98 x196000_1.length co98, .slice Ao93 x196001_3.length co93] (0, 0) _ rfl (by (with_reducible repeat (first | apply kdn | apply kdr | apply kal)); refine blk_put (cs := #[.slice Ao98 x196000_1.length co98, .slice none 0 0]) ?_ 1 _ rfl; (with_reducible repeat (first | apply kdn | apply kdr | apply kal)); refine blk_put (cs := #[.slice none 0 0, .slice none 0 0]) ?_ 0 _ rfl; (with_reducible repeat (first | apply kdn | apply kdr | apply kal)); exact BK184.out) Try.underlying30 rfl (by kernel_rfl)) rfl ?_
              exact ⟨_, _, by first | rfl | (simp [errW_none, errW_some] <;> rfl) | (simp [*, errW_none, errW_some] <;> rfl), by (with_reducible repeat (first | apply kra | apply krn | apply krd)); exact Kd.R_mono (kfa (p := ⟨gb184, 1, none⟩) (kfa (p := ⟨gb184, 0, none⟩) (Kd.R_types HO_196000.out BK184.out (by decide)) (fun _ hk => hk.2) (.slice Ao98 x196000_1.length co98)) (fun _ hk => hk.2) (.slice Ao93 x196001_3.length co93)) (fun _ hk => trivial), by (with_reducible repeat (first | apply kra | apply krn | apply krd)); exact Kd.R_mono (kfa (p := ⟨gb184, 1, none⟩) (kfa (p := ⟨gb184, 0, none⟩) (Kd.R_types HO_196001.out BK184.out (by decide)) (fun _ hk => hk.2) (.slice Ao98 x196000_1.length co98)) (fun _ hk => hk.2) (.slice Ao93 x196001_3.length co93)) (fun _ hk => trivial), by repeat (first | (with_reducible first | exact HI0.out | apply IsS139.alloc | apply IsS139.drewN | apply IsS139.drew | apply IsS139.set_1 | apply IsS139.set_2 | refine IsS139.far ?_ NB0_184.out _ | refine IsS139.far ?_ NB0_195.out _) | exact HI0.out), by repeat (first | (with_reducible first | exact HB.out | apply bal | apply pdn | apply bd1 | refine bst ?_ (IsS139.ge HI0.out) | refine bst ?_ GE184.out | refine bst ?_ GE195.out) | exact HB.out), by repeat (first | (with_reducible first | exact HK.out | apply KeepBut.set_ | apply keep_drewN | apply keep_drew | apply keep_alloc | refine keep_far ?_ GW184.out _ | refine keep_far ?_ GW195.out _) | exact HK.out)⟩
          ·rw [if_neg c78] at H
           have c78b0 : (t212 == 3) = false := beq_eq_false_iff_ne.mpr c78
           have c78b1 : (t212 != 3) = true := bne_iff_ne.mpr c78
           simp only [Option.some.injEq, Prod.mk.injEq] at H
           obtain ⟨rfl, rfl, rfl, rfl⟩ := H
           go_wp2_with (first | ((with_reducible refine gate_callee (f := 82) rfl ?_); refine goesL_ (some 49) rfl rfl Try.func82 (by kernel_rfl) rfl #[.pointer (some ⟨g, 0, none⟩), .int .i64 20] rfl (by (try simp only [mta, mco, mni]); first | done | rfl | (simp only [lnd, lnt]; rfl)) ?_; (with_reducible refine (spec_l00Src_pick.calls g s0_0 x1001_2 x1002_2 20 t212 t213 t214 w0 _ ?side1 ?side2 A33.out).mono ?_); (case side1 => repeat (first | (with_reducible first | exact HI0.out | apply IsS139.alloc | apply IsS139.drewN | apply IsS139.drew | apply IsS139.set_1 | apply IsS139.set_2 | refine IsS139.far ?_ NB0_184.out _ | refine IsS139.far ?_ NB0_195.out _) | exact HI0.out)); (case side2 => repeat (first | (with_reducible first | exact HB.out | apply bal | apply pdn | apply bd1 | refine bst ?_ (IsS139.ge HI0.out) | refine bst ?_ GE184.out | refine bst ?_ GE195.out) | exact HB.out)); rintro e w101 ⟨rfl, hi, hb, hk⟩; refine ⟨_, rfl, ?_⟩; have n0_ := am (Kd.R_mono (Kd.R_keep (IsS139.apart (show IsS139 w0 _ g s0_0 x1001_2 x1002_2 from by repeat (first | (with_reducible first | exact HI0.out | apply IsS139.alloc | apply IsS139.drewN | apply IsS139.drew | apply IsS139.set_1 | apply IsS139.set_2 | refine IsS139.far ?_ NB0_184.out _ | refine IsS139.far ?_ NB0_195.out _) | exact HI0.out)) (by (with_reducible repeat (first | apply kra | apply krn | apply krd)); exact HO_196000.out) (by decide)) hk (fun _ h => h.2)) (fun _ h => h.1)); have n1_ := am (Kd.R_mono (Kd.R_keep (IsS139.apart (show IsS139 w0 _ g s0_0 x1001_2 x1002_2 from by repeat (first | (with_reducible first | exact HI0.out | apply IsS139.alloc | apply IsS139.drewN | apply IsS139.drew | apply IsS139.set_1 | apply IsS139.set_2 | refine IsS139.far ?_ NB0_184.out _ | refine IsS139.far ?_ NB0_195.out _) | exact HI0.out)) (by (with_reducible repeat (first | apply kra | apply krn | apply krd)); exact HO_196001.out) (by decide)) hk (fun _ h => h.2)) (fun _ h => h.1)); have n2_ := am (KeepBut.blk hk (g' := gb184) (o := .cells #[.slice none 0 0, .slice none 0 0] 30 (0, 0)) (by (with_reducible repeat (first | apply kdn | apply kdr | apply kal)); exact BK184.out) NB184_0.out (by simp)); have n3_ := am (KeepBut.blk hk (g' := gb195) (o := .cells #[u196000, u196001] 30 (0, 0)) (by (with_reducible repeat (first | apply kdn | apply kdr | apply kal)); exact BK195.out) NB195_0.out (by simp)); have n4_ := am (KeepBut.trans (by repeat (first | (with_reducible first | exact HK.out | apply KeepBut.set_ | apply keep_drewN | apply keep_drew | apply keep_alloc | refine keep_far ?_ GW184.out _ | refine keep_far ?_ GW195.out _) | exact HK.out)) hk (.inl rfl)); have n5_ := am (hb); have n6_ := am (hi); clear HO_196000; clear HO_196001; clear BK184; clear BK195; clear HK; clear HB; clear HI0; have HO_196000 := n0_; have HO_196001 := n1_; have BK184 := n2_; have BK195 := n3_; have HK := n4_; have HB := n5_; have HI0 := n6_; clear n0_ n1_ n2_ n3_ n4_ n5_ n6_; (try clear hb); (try clear hb2); (try clear hk); (try clear hi); have hnb102 := NB195_184.out; have hnc102 := NB184_195.out; have hnb103 := NB195_0.out; have hnc103 := NB0_195.out; have hcz104_0 : w101.cell? ⟨gb195, 0, none⟩ = some (u196000) := (kce BK195.out 0).trans rfl; have hcz104_1 : w101.cell? ⟨gb195, 1, none⟩ = some (u196001) := (kce BK195.out 1).trans rfl; have hfz104_0 := kfr BK195.out 0; have hfz104_1 := kfr BK195.out 1; obtain ⟨Ao105, co105, eo105⟩ := Kd.R_slice HO_196000.out; subst eo105; have hnb106 := NB184_0.out; have hnc106 := NB0_184.out; have hcz107_0 : w101.cell? ⟨gb184, 0, none⟩ = some (.slice none 0 0) := (kce BK184.out 0).trans rfl; have hcz107_1 : w101.cell? ⟨gb184, 1, none⟩ = some (.slice none 0 0) := (kce BK184.out 1).trans rfl; have hfz107_0 := kfr BK184.out 0; have hfz107_1 := kfr BK184.out 1; obtain ⟨Ao108, co108, eo108⟩ := Kd.R_slice HO_196001.out; subst eo108))
           refine bodyPost_ret (results_cell_row rfl _ _ gb184 30 #[.slice Ao105 x196000_1.length co105, .slice Ao108 x196001_2.length co108] (0, 0) _ rfl (by (with_reducible repeat (first | apply kdn | apply kdr | apply kal)); refine blk_put (cs := #[.slice Ao105 x196000_1.length co105, .slice none 0 0]) ?_ 1 _ rfl; (with_reducible repeat (first | apply kdn | apply kdr | apply kal)); refine blk_put (cs := #[.slice none 0 0, .slice none 0 0]) ?_ 0 _ rfl; (with_reducible repeat (first | apply kdn | apply kdr | apply kal)); exact BK184.out) Try.underlying30 rfl (by kernel_rfl)) rfl ?_
           exact ⟨_, _, by first | rfl | (simp [errW_none, errW_some] <;> rfl) | (simp [*, errW_none, errW_some] <;> rfl), by (with_reducible repeat (first | apply kra | apply krn | apply krd)); exact Kd.R_mono (kfa (p := ⟨gb184, 1, none⟩) (kfa (p := ⟨gb184, 0, none⟩) (Kd.R_types HO_196000.out BK184.out (by decide)) (fun _ hk => hk.2) (.slice Ao105 x196000_1.length co105)) (fun _ hk => hk.2) (.slice Ao108 x196001_2.length co108)) (fun _ hk => trivial), by (with_reducible repeat (first | apply kra | apply krn | apply krd)); exact Kd.R_mono (kfa (p := ⟨gb184, 1, none⟩) (kfa (p := ⟨gb184, 0, none⟩) (Kd.R_types HO_196001.out BK184.out (by decide)) (fun _ hk => hk.2) (.slice Ao105 x196000_1.length co105)) (fun _ hk => hk.2) (.slice Ao108 x196001_2.length co108)) (fun _ hk => trivial), by repeat (first | (with_reducible first | exact HI0.out | apply IsS139.alloc | apply IsS139.drewN | apply IsS139.drew | apply IsS139.set_1 | apply IsS139.set_2 | refine IsS139.far ?_ NB0_184.out _ | refine IsS139.far ?_ NB0_195.out _) | exact HI0.out), by repeat (first | (with_reducible first | exact HB.out | apply bal | apply pdn | apply bd1 | refine bst ?_ (IsS139.ge HI0.out) | refine bst ?_ GE184.out | refine bst ?_ GE195.out) | exact HB.out), by repeat (first | (with_reducible first | exact HK.out | apply KeepBut.set_ | apply keep_drewN | apply keep_drew | apply keep_alloc | refine keep_far ?_ GW184.out _ | refine keep_far ?_ GW195.out _) | exact HK.out)⟩

end Go.Proofs.Ythphhklbliambaa.MFnDiskKeeps
