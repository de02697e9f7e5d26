-- Written by a program of this session (wip/tools/myprint.py) over the kit's print: it is not the kit's print.
import Derived.Test.YthphhklbliambaaExtra
import Derived.Test.YthphhklbliambaaMFnOpsx0
import Derived.Test.YthphhklbliambaaMFnOpsx2
import Derived.Test.YthphhklbliambaaMFnOpsx3
namespace Go.Proofs.Ythphhklbliambaa.MFnOps
open Go.RowKit Go.Proofs.YthphhklbliambaaW.PrintWords Go.Proofs.YthphhklbliambaaW.PrintLast Go.Proofs.YthphhklbliambaaW.PrintMore
open List renaming setIfInBounds_toArray → sit, set_cons_zero → scz, set_cons_succ → scs, map_toArray → mta, map_cons → mco, map_nil → mni, length_drop → lnd, length_take → lnt
attribute [local go_sem] max2_int min2_int max_two min_two max_three min_three max_four min_four   -- for this text's walks alone
set_option linter.unusedVariables false
set_option linter.unusedSimpArgs false

/-! ### impl_binary_text: function 93 -/
def impl_binary_text.f (k : Nat) (s0_0 : ByteArray) (s0_1 : Bool) : Option (ByteArray × ByteArray × Bool) := (impl_GetText.f k s0_0).bind fun bt131 => (if bt131.2.2 = true then (if 0 ≤ bt131.2.1 then (if bt131.2.1 ≤ (s0_0.size : Int) then (some (bt131.1, s0_0.extract (bt131.2.1 : Int).toNat s0_0.size, s0_1)) else (none)) else (none)) else (if 0 ≤ bt131.2.1 then (if bt131.2.1 ≤ (s0_0.size : Int) then (some (bt131.1, s0_0.extract (bt131.2.1 : Int).toNat s0_0.size, true)) else (none)) else (none)))
theorem impl_binary_text.mono : ∀ a0 a1 k, LeO (impl_binary_text.f k a0 a1) (impl_binary_text.f (k + 1) a0 a1) := by
 intro a0 a1 k
 unfold impl_binary_text.f
 repeat' first
   | (with_reducible exact impl_GetText.mono _ _)
   | (with_reducible exact LeO.refl _)
   | (with_reducible exact LeO.none _)
   | (with_reducible refine LeO.ite ?_ ?_)
   | (with_reducible refine LeO.bind ?_ (fun _ => ?_))
   | exact impl_GetText.mono _ _
   | exact LeO.none _
   | refine LeO.ite ?_ ?_
   | refine LeO.bind ?_ (fun _ => ?_)
set_option maxHeartbeats 8000000 in
set_option maxRecDepth 100000 in
theorem impl_binary_text.calls (k : Nat) (g : Nat) (s0_0 : ByteArray) (s0_1 : Bool) (r1 : ByteArray) (r2 : ByteArray) (r3 : Bool) (w0 w : World) (hI : IsS119 w0 w g s0_0 s0_1) (hB : Below w0.heap.size w0 w) (h : impl_binary_text.f k s0_0 s0_1 = some (r1, r2, r3)) :
  Calls Try.prog 93 #[.pointer (some ⟨g, 0, none⟩)] w fun e w' => e = .returned (.string r1) ∧ IsS119 w0 w' g r2 r3 ∧ Below w0.heap.size w0 w' ∧ KeepBut w w' g none := by
 have HI0 := am hI
 have HK := am (KeepBut.refl w g none)
 have HL := am hB.size
 clear hI
 have HW0 := am hB.size
 have HB := am hB
 clear hB
 have H : ((impl_GetText.f k s0_0).bind fun bt131 => (if bt131.2.2 = true then (if 0 ≤ bt131.2.1 then (if bt131.2.1 ≤ (s0_0.size : Int) then (some (bt131.1, s0_0.extract (bt131.2.1 : Int).toNat s0_0.size, s0_1)) else (none)) else (none)) else (if 0 ≤ bt131.2.1 then (if bt131.2.1 ≤ (s0_0.size : Int) then (some (bt131.1, s0_0.extract (bt131.2.1 : Int).toNat s0_0.size, true)) else (none)) else (none)))) = some (r1, r2, r3) := h
 clear h
 replace H := Option.bind_eq_some_iff.mp H
 obtain ⟨⟨t131, t132, t133⟩, A20, H⟩ := H
 replace H : (if t133 = true then (if 0 ≤ t132 then (if t132 ≤ (s0_0.size : Int) then (some (t131, s0_0.extract (t132 : Int).toNat s0_0.size, s0_1)) else (none)) else (none)) else (if 0 ≤ t132 then (if t132 ≤ (s0_0.size : Int) then (some (t131, s0_0.extract (t132 : Int).toNat s0_0.size, true)) else (none)) else (none))) = some (r1, r2, r3) := H
 have A2 := am A20
 clear A20
 by_cases c3 : t133 = true
 ·subst c3
  have H1 : (if 0 ≤ t132 then (if t132 ≤ (s0_0.size : Int) then (some (t131, s0_0.extract (t132 : Int).toNat s0_0.size, s0_1)) else (none)) else (none)) = some (r1, r2, r3) := by rw [if_pos rfl] at H; exact H
  clear H
  have H := H1
  clear H1
  by_cases c4 : 0 ≤ t132
  ·rw [if_pos c4] at H
   have c4b0 := eq_true c4
   have c4b1 : decide (0 ≤ t132) = true := decide_eq_true c4
   clear c4
   by_cases c5 : t132 ≤ (s0_0.size : Int)
   ·rw [if_pos c5] at H
    have c5b0 := eq_true c5
    have c5b1 : decide (t132 ≤ (s0_0.size : Int)) = true := decide_eq_true c5
    clear c5
    simp only [Option.some.injEq, Prod.mk.injEq] at H
    obtain ⟨rfl, rfl, rfl⟩ := H
    obtain ⟨HGz6, hgz6⟩ := HI0.out
    have hcz6_0 := cellS119_0 HGz6
    have hcz6_1 := cellS119_1 HGz6
    have hfz6_0 := kfr HGz6 0
    have hfz6_1 := kfr HGz6 1
    clear HGz6 hgz6
    go_enter Try.func93, Try.ntmps93
    go_wp2_with (first | ((with_reducible refine gate_callee (f := 121) rfl ?_); refine goesL_ (some 11) rfl rfl Try.func121 (by kernel_rfl) rfl #[.string s0_0] rfl (by (try simp only [mta, mco, mni]); first | done | rfl | (simp only [lnd, lnt]; rfl)) ?_; (with_reducible refine (impl_GetText.calls k s0_0 t131 t132 true _ A2.out).mono ?_); rintro e w' ⟨rfl, ⟨nd, rfl⟩⟩; refine ⟨_, rfl, ?_⟩; (try (rw [drewN_self w]; generalize hq_ : World.drewN w _ = w; have n0_ := am (IsS119.at_ hq_ HI0.out); have n1_ := am (keep_at hq_ HK.out); have n2_ := am (below_at hq_ HB.out); clear hq_ HI0 HK HB; have HI0 := n0_; have HK := n1_; have HB := n2_; clear n0_ n1_ n2_; (try (obtain ⟨HGqHI0, _⟩ := HI0.out)); (try (have hcqHI0_0 := cellS119_0 HGqHI0)); (try (have hfqHI0_0 := kfr HGqHI0 0)); (try (have hcqHI0_1 := cellS119_1 HGqHI0)); (try (have hfqHI0_1 := kfr HGqHI0 1)); (try (clear HGqHI0))))))
    go_ret
    exact ⟨by first | rfl | (simp [errW_none, errW_some] <;> rfl) | (simp [*, errW_none, errW_some] <;> rfl), by repeat (first | (with_reducible first | exact HI0.out | apply IsS119.alloc | apply IsS119.drewN | apply IsS119.drew | apply IsS119.set_0 | apply IsS119.set_1) | exact HI0.out), by repeat (first | (with_reducible first | exact HB.out | apply bal | apply pdn | apply bd1 | refine bst ?_ (IsS119.ge HI0.out)) | exact HB.out), by repeat (first | (with_reducible first | exact HK.out | apply KeepBut.set_ | apply keep_drewN | apply keep_drew | apply keep_alloc) | exact HK.out)⟩
   ·rw [if_neg c5] at H
    exact absurd H (by simp)
  ·rw [if_neg c4] at H
   exact absurd H (by simp)
 ·replace c3 := Bool.eq_false_iff.mpr c3
  subst c3
  have H1 : (if 0 ≤ t132 then (if t132 ≤ (s0_0.size : Int) then (some (t131, s0_0.extract (t132 : Int).toNat s0_0.size, true)) else (none)) else (none)) = some (r1, r2, r3) := by rw [if_neg (show ¬ (false = true) by decide)] at H; exact H
  clear H
  have H := H1
  clear H1
  by_cases c7 : 0 ≤ t132
  ·rw [if_pos c7] at H
   have c7b0 := eq_true c7
   have c7b1 : decide (0 ≤ t132) = true := decide_eq_true c7
   clear c7
   by_cases c8 : t132 ≤ (s0_0.size : Int)
   ·rw [if_pos c8] at H
    have c8b0 := eq_true c8
    have c8b1 : decide (t132 ≤ (s0_0.size : Int)) = true := decide_eq_true c8
    clear c8
    simp only [Option.some.injEq, Prod.mk.injEq] at H
    obtain ⟨rfl, rfl, rfl⟩ := H
    obtain ⟨HGz9, hgz9⟩ := HI0.out
    have hcz9_0 := cellS119_0 HGz9
    have hcz9_1 := cellS119_1 HGz9
    have hfz9_0 := kfr HGz9 0
    have hfz9_1 := kfr HGz9 1
    clear HGz9 hgz9
    go_enter Try.func93, Try.ntmps93
    go_wp2_with (first | ((with_reducible refine gate_callee (f := 121) rfl ?_); refine goesL_ (some 11) rfl rfl Try.func121 (by kernel_rfl) rfl #[.string s0_0] rfl (by (try simp only [mta, mco, mni]); first | done | rfl | (simp only [lnd, lnt]; rfl)) ?_; (with_reducible refine (impl_GetText.calls k s0_0 t131 t132 false _ A2.out).mono ?_); rintro e w' ⟨rfl, ⟨nd, rfl⟩⟩; refine ⟨_, rfl, ?_⟩; (try (rw [drewN_self w]; generalize hq_ : World.drewN w _ = w; have n0_ := am (IsS119.at_ hq_ HI0.out); have n1_ := am (keep_at hq_ HK.out); have n2_ := am (below_at hq_ HB.out); clear hq_ HI0 HK HB; have HI0 := n0_; have HK := n1_; have HB := n2_; clear n0_ n1_ n2_; (try (obtain ⟨HGqHI0, _⟩ := HI0.out)); (try (have hcqHI0_0 := cellS119_0 HGqHI0)); (try (have hfqHI0_0 := kfr HGqHI0 0)); (try (have hcqHI0_1 := cellS119_1 HGqHI0)); (try (have hfqHI0_1 := kfr HGqHI0 1)); (try (clear HGqHI0))))))
    go_ret
    exact ⟨by first | rfl | (simp [errW_none, errW_some] <;> rfl) | (simp [*, errW_none, errW_some] <;> rfl), by repeat (first | (with_reducible first | exact HI0.out | apply IsS119.alloc | apply IsS119.drewN | apply IsS119.drew | apply IsS119.set_0 | apply IsS119.set_1) | exact HI0.out), by repeat (first | (with_reducible first | exact HB.out | apply bal | apply pdn | apply bd1 | refine bst ?_ (IsS119.ge HI0.out)) | exact HB.out), by repeat (first | (with_reducible first | exact HK.out | apply KeepBut.set_ | apply keep_drewN | apply keep_drew | apply keep_alloc) | exact HK.out)⟩
   ·rw [if_neg c8] at H
    exact absurd H (by simp)
  ·rw [if_neg c7] at H
   exact absurd H (by simp)

/-! ### impl_GetOp: function 41 -/
def impl_GetOp.f (k : Nat) (a0 : ByteArray) : Option (Int × Int × ByteArray × Int × Bool) := (impl_binary_number.f k a0 false).bind fun bt136 => ((impl_binary_number.f k bt136.2.1 bt136.2.2).bind fun bt139 => ((impl_binary_text.f k bt139.2.1 bt139.2.2).bind fun bt142 => (if bt142.2.2 = true then (some (0, 0, (⟨#[]⟩ : ByteArray), 0, false)) else ((impl_plainCode.f).bind fun bt146 => ((impl_OpOk.f k bt146.1 bt146.2 bt136.1 bt139.1 bt142.1).bind fun t148 => (if t148 = true then (some (bt136.1, bt139.1, bt142.1, wrap64 ((a0.size : Int) - (bt142.2.1.size : Int)), true)) else (some (0, 0, (⟨#[]⟩ : ByteArray), 0, false))))))))
theorem impl_GetOp.mono : ∀ a0 k, LeO (impl_GetOp.f k a0) (impl_GetOp.f (k + 1) a0) := by
 intro a0 k
 unfold impl_GetOp.f
 repeat' first
   | (with_reducible exact impl_OpOk.mono _ _ _ _ _ _)
   | (with_reducible exact impl_binary_number.mono _ _ _)
   | (with_reducible exact impl_binary_text.mono _ _ _)
   | (with_reducible exact LeO.refl _)
   | (with_reducible exact LeO.none _)
   | (with_reducible refine LeO.ite ?_ ?_)
   | (with_reducible refine LeO.bind ?_ (fun _ => ?_))
   | exact impl_OpOk.mono _ _ _ _ _ _
   | exact impl_binary_number.mono _ _ _
   | exact impl_binary_text.mono _ _ _
   | exact LeO.none _
   | refine LeO.ite ?_ ?_
   | refine LeO.bind ?_ (fun _ => ?_)
def impl_GetOp.T3 : Bool × List (List Nat × List Nat) := (true, [([], []), ([0], [0]), ([1], [1]), ([2], [2]), ([3], [3]), ([4, 4], [4]), ([4], [4]), ([5, 6, 5, 4], [4, 5, 6]), ([7, 4], [4, 7]), ([4, 8], [4, 8])])
def impl_GetOp.B3 : List Nat := [0, 1, 3, 7, 15, 31, 31, 127, 255, 511]
theorem impl_GetOp.tab3 : rtab .any (opsOf Try.f41 3) = impl_GetOp.T3 := by kernel_rfl
theorem impl_GetOp.bits3 : waitsOk impl_GetOp.T3.2 impl_GetOp.B3 = true := by kernel_rfl
def impl_GetOp.T5 : Bool × List (List Nat × List Nat) := (true, [([], []), ([], []), ([1], [1]), ([], []), ([3], [3]), ([4], [4]), ([5], [5]), ([6], [6]), ([2, 7], [2, 7]), ([0, 0], [0]), ([8, 9, 0, 1, 2, 3, 4, 5, 6, 7, 8, 9], [8]), ([10, 0, 1, 2, 3, 4, 5, 6, 7, 8, 9, 10], [])])
def impl_GetOp.B5 : List Nat := [0, 0, 2, 0, 8, 24, 56, 120, 254, 1, 1023, 2047]
theorem impl_GetOp.tab5 : rtab .any (opsOf Try.f41 5) = impl_GetOp.T5 := by kernel_rfl
theorem impl_GetOp.bits5 : waitsOk impl_GetOp.T5.2 impl_GetOp.B5 = true := by kernel_rfl
set_option maxHeartbeats 8000000 in
set_option maxRecDepth 100000 in
theorem impl_GetOp.calls (k : Nat) (a0 : ByteArray) (r1 : Int) (r2 : Int) (r3 : ByteArray) (r4 : Int) (r5 : Bool) (w : World) (h : impl_GetOp.f k a0 = some (r1, r2, r3, r4, r5)) :
  Calls Try.prog 41 #[.string a0] w fun e w' => e = .returned (.tuple #[.agg #[.int .i64 r1, .int .i64 r2, .string r3], .int .i64 r4, .bool r5]) ∧ Below w.heap.size w w' := by
 have hu60 := Try.underlying60
 have hu119 := Try.underlying119
 have HB := am (Below.refl w.heap.size w)
 have H : ((impl_binary_number.f k a0 false).bind fun bt136 => ((impl_binary_number.f k bt136.2.1 bt136.2.2).bind fun bt139 => ((impl_binary_text.f k bt139.2.1 bt139.2.2).bind fun bt142 => (if bt142.2.2 = true then (some (0, 0, (⟨#[]⟩ : ByteArray), 0, false)) else ((impl_plainCode.f).bind fun bt146 => ((impl_OpOk.f k bt146.1 bt146.2 bt136.1 bt139.1 bt142.1).bind fun t148 => (if t148 = true then (some (bt136.1, bt139.1, bt142.1, wrap64 ((a0.size : Int) - (bt142.2.1.size : Int)), true)) else (some (0, 0, (⟨#[]⟩ : ByteArray), 0, false))))))))) = some (r1, r2, r3, r4, r5) := h
 clear h
 replace H := Option.bind_eq_some_iff.mp H
 obtain ⟨⟨t136, t137, t138⟩, A20, H⟩ := H
 replace H : ((impl_binary_number.f k t137 t138).bind fun bt139 => ((impl_binary_text.f k bt139.2.1 bt139.2.2).bind fun bt142 => (if bt142.2.2 = true then (some (0, 0, (⟨#[]⟩ : ByteArray), 0, false)) else ((impl_plainCode.f).bind fun bt146 => ((impl_OpOk.f k bt146.1 bt146.2 t136 bt139.1 bt142.1).bind fun t148 => (if t148 = true then (some (t136, bt139.1, bt142.1, wrap64 ((a0.size : Int) - (bt142.2.1.size : Int)), true)) else (some (0, 0, (⟨#[]⟩ : ByteArray), 0, false)))))))) = some (r1, r2, r3, r4, r5) := H
 have A2 := am A20
 clear A20
 replace H := Option.bind_eq_some_iff.mp H
 obtain ⟨⟨t139, t140, t141⟩, A30, H⟩ := H
 replace H : ((impl_binary_text.f k t140 t141).bind fun bt142 => (if bt142.2.2 = true then (some (0, 0, (⟨#[]⟩ : ByteArray), 0, false)) else ((impl_plainCode.f).bind fun bt146 => ((impl_OpOk.f k bt146.1 bt146.2 t136 t139 bt142.1).bind fun t148 => (if t148 = true then (some (t136, t139, bt142.1, wrap64 ((a0.size : Int) - (bt142.2.1.size : Int)), true)) else (some (0, 0, (⟨#[]⟩ : ByteArray), 0, false))))))) = some (r1, r2, r3, r4, r5) := H
 have A3 := am A30
 clear A30
 replace H := Option.bind_eq_some_iff.mp H
 obtain ⟨⟨t142, t143, t144⟩, A40, H⟩ := H
 replace H : (if t144 = true then (some (0, 0, (⟨#[]⟩ : ByteArray), 0, false)) else ((impl_plainCode.f).bind fun bt146 => ((impl_OpOk.f k bt146.1 bt146.2 t136 t139 t142).bind fun t148 => (if t148 = true then (some (t136, t139, t142, wrap64 ((a0.size : Int) - (t143.size : Int)), true)) else (some (0, 0, (⟨#[]⟩ : ByteArray), 0, false)))))) = some (r1, r2, r3, r4, r5) := H
 have A4 := am A40
 clear A40
 by_cases c5 : t144 = true
 ·subst c5
  have H1 : (some (0, 0, (⟨#[]⟩ : ByteArray), 0, false)) = some (r1, r2, r3, r4, r5) := by rw [if_pos rfl] at H; exact H
  clear H
  have H := H1
  clear H1
  simp only [Option.some.injEq, Prod.mk.injEq] at H
  obtain ⟨rfl, rfl, rfl, rfl, rfl⟩ := H
  go_enter Try.func41, Try.ntmps41
  try go_wp2_with (first | ((with_reducible refine gate_dst (N := 2) rfl ?_); refine box_event ?hg (N := 2) ?hd (cs := #[.int .i64 0, .int .i64 0, .string (⟨#[]⟩ : ByteArray)]) (t := 60) ?hr ?_; (case hd => rfl); (case hg => rfl); (case hr => first | (go_simp; done) | (go_simp; rfl)); intro gb134 hg w6 hbox hb; have n0_ := am (below_step (by repeat (first | (with_reducible first | exact HB.out | apply bal | apply pdn | apply bd1) | exact HB.out)) hb); have n1_ := am (hbox); have n2_ := am ((by rw [hg]; exact (below_size (by repeat (first | (with_reducible first | exact HB.out | apply bal | apply pdn | apply bd1) | exact HB.out))) : w.heap.size ≤ gb134)); have n3_ := am ((by rw [hg]; exact (below_size (by repeat (first | (with_reducible first | exact HB.out | apply bal | apply pdn | apply bd1) | exact HB.out))) : w.heap.size ≤ gb134)); clear HB; have HB := n0_; have BK134 := n1_; have GW134 := n2_; have GE134 := n3_; clear n0_ n1_ n2_ n3_; clear hb hbox hg) | ((with_reducible refine gate_dst (N := 9) rfl ?_); refine box_event ?hg (N := 9) ?hd (cs := #[.string a0, .bool false]) (t := 119) ?hr ?_; (case hd => rfl); (case hg => rfl); (case hr => first | (go_simp; done) | (go_simp; rfl)); intro gb135 hg w7 hbox hb; have n0_ := am (kbb (g := gb134) (o := .cells #[.int .i64 0, .int .i64 0, .string (⟨#[]⟩ : ByteArray)] 60 (0, 0)) (by (with_reducible repeat (first | apply kdn | apply kdr | apply kal)); exact BK134.out) hb); have n1_ := am (below_step (by repeat (first | (with_reducible first | exact HB.out | apply bal | apply pdn | apply bd1 | refine bst ?_ GE134.out) | exact HB.out)) hb); have n2_ := am ((show IsS119 w _ gb135 a0 false from ⟨hbox, (by rw [hg]; exact (below_size (by repeat (first | (with_reducible first | exact HB.out | apply bal | apply pdn | apply bd1 | refine bst ?_ GE134.out) | exact HB.out))))⟩)); have n3_ := am ((by rw [hg]; exact (below_size (by repeat (first | (with_reducible first | exact HB.out | apply bal | apply pdn | apply bd1 | refine bst ?_ GE134.out) | exact HB.out))) : w.heap.size ≤ gb135)); have n4_ := am ((by rw [hg]; exact (below_size (by repeat (first | (with_reducible first | exact HB.out | apply bal | apply pdn | apply bd1 | refine bst ?_ GE134.out) | exact HB.out))) : w.heap.size ≤ gb135)); have n5_ := am ((by rw [hg]; exact Nat.ne_of_lt (blk_lt (g := gb134) (o := .cells #[.int .i64 0, .int .i64 0, .string (⟨#[]⟩ : ByteArray)] 60 (0, 0)) (by (with_reducible repeat (first | apply kdn | apply kdr | apply kal)); exact BK134.out)) : gb134 ≠ gb135)); have n6_ := am ((by rw [hg]; exact Nat.ne_of_gt (blk_lt (g := gb134) (o := .cells #[.int .i64 0, .int .i64 0, .string (⟨#[]⟩ : ByteArray)] 60 (0, 0)) (by (with_reducible repeat (first | apply kdn | apply kdr | apply kal)); exact BK134.out)) : gb135 ≠ gb134)); clear BK134; clear HB; have BK134 := n0_; have HB := n1_; have HI135 := n2_; have GW135 := n3_; have GE135 := n4_; have NB134_135 := n5_; have NB135_134 := n6_; clear n0_ n1_ n2_ n3_ n4_ n5_ n6_; clear hb hbox hg) | ((with_reducible refine gate_callee (f := 92) rfl ?_); refine goesL_ (some 11) rfl rfl Try.func92 (by kernel_rfl) rfl #[.pointer (some ⟨gb135, 0, none⟩)] rfl (by (try simp only [mta, mco, mni]); first | done | rfl | (simp only [lnd, lnt]; rfl)) ?_; (with_reducible refine (impl_binary_number.calls k gb135 a0 false t136 t137 t138 w _ ?side1 ?side2 A2.out).mono ?_); (case side1 => repeat (first | (with_reducible first | exact HI135.out | apply IsS119.alloc | apply IsS119.drewN | apply IsS119.drew | apply IsS119.set_0 | apply IsS119.set_1 | refine IsS119.far ?_ NB135_134.out _) | exact HI135.out)); (case side2 => repeat (first | (with_reducible first | exact HB.out | apply bal | apply pdn | apply bd1 | refine bst ?_ (IsS119.ge HI135.out) | refine bst ?_ GE134.out) | exact HB.out)); rintro e w8 ⟨rfl, hi, hb, hk⟩; refine ⟨_, rfl, ?_⟩; have n0_ := am (KeepBut.blk hk (g' := gb134) (o := .cells #[.int .i64 0, .int .i64 0, .string (⟨#[]⟩ : ByteArray)] 60 (0, 0)) (by (with_reducible repeat (first | apply kdn | apply kdr | apply kal)); exact BK134.out) NB134_135.out (by simp)); have n1_ := am (hb); have n2_ := am (hi); clear BK134; clear HB; clear HI135; have BK134 := n0_; have HB := n1_; have HI135 := n2_; clear n0_ n1_ n2_; (try clear hb); (try clear hb2); (try clear hk); (try clear hi)) | ((with_reducible refine gate_callee (f := 92) rfl ?_); refine goesL_ (some 13) rfl rfl Try.func92 (by kernel_rfl) rfl #[.pointer (some ⟨gb135, 0, none⟩)] rfl (by (try simp only [mta, mco, mni]); first | done | rfl | (simp only [lnd, lnt]; rfl)) ?_; (with_reducible refine (impl_binary_number.calls k gb135 t137 t138 t139 t140 t141 w _ ?side1 ?side2 A3.out).mono ?_); (case side1 => repeat (first | (with_reducible first | exact HI135.out | apply IsS119.alloc | apply IsS119.drewN | apply IsS119.drew | apply IsS119.set_0 | apply IsS119.set_1 | refine IsS119.far ?_ NB135_134.out _) | exact HI135.out)); (case side2 => repeat (first | (with_reducible first | exact HB.out | apply bal | apply pdn | apply bd1 | refine bst ?_ (IsS119.ge HI135.out) | refine bst ?_ GE134.out) | exact HB.out)); rintro e w9 ⟨rfl, hi, hb, hk⟩; refine ⟨_, rfl, ?_⟩; have n0_ := am (KeepBut.blk hk (g' := gb134) (o := .cells #[.int .i64 0, .int .i64 0, .string (⟨#[]⟩ : ByteArray)] 60 (0, 0)) (by (with_reducible repeat (first | apply kdn | apply kdr | apply kal)); exact BK134.out) NB134_135.out (by simp)); have n1_ := am (hb); have n2_ := am (hi); clear BK134; clear HB; clear HI135; have BK134 := n0_; have HB := n1_; have HI135 := n2_; clear n0_ n1_ n2_; (try clear hb); (try clear hb2); (try clear hk); (try clear hi)) | ((with_reducible refine gate_callee (f := 93) rfl ?_); refine goesL_ (some 15) rfl rfl Try.func93 (by kernel_rfl) rfl #[.pointer (some ⟨gb135, 0, none⟩)] rfl (by (try simp only [mta, mco, mni]); first | done | rfl | (simp only [lnd, lnt]; rfl)) ?_; (with_reducible refine (impl_binary_text.calls k gb135 t140 t141 t142 t143 true w _ ?side1 ?side2 A4.out).mono ?_); (case side1 => repeat (first | (with_reducible first | exact HI135.out | apply IsS119.alloc | apply IsS119.drewN | apply IsS119.drew | apply IsS119.set_0 | apply IsS119.set_1 | refine IsS119.far ?_ NB135_134.out _) | exact HI135.out)); (case side2 => repeat (first | (with_reducible first | exact HB.out | apply bal | apply pdn | apply bd1 | refine bst ?_ (IsS119.ge HI135.out) | refine bst ?_ GE134.out) | exact HB.out)); rintro e w10 ⟨rfl, hi, hb, hk⟩; refine ⟨_, rfl, ?_⟩; have n0_ := am (KeepBut.blk hk (g' := gb134) (o := .cells #[.int .i64 0, .int .i64 0, .string (⟨#[]⟩ : ByteArray)] 60 (0, 0)) (by (with_reducible repeat (first | apply kdn | apply kdr | apply kal)); exact BK134.out) NB134_135.out (by simp)); have n1_ := am (hb); have n2_ := am (hi); clear BK134; clear HB; clear HI135; have BK134 := n0_; have HB := n1_; have HI135 := n2_; clear n0_ n1_ n2_; (try clear hb); (try clear hb2); (try clear hk); (try clear hi)) | ((with_reducible refine gate_dst (N := 6) rfl ?_); refine box_event ?hg (N := 6) ?hd (cs := #[.int .i64 0, .int .i64 0, .string (⟨#[]⟩ : ByteArray)]) (t := 60) ?hr ?_; (case hd => rfl); (case hg => rfl); (case hr => first | (go_simp; done) | (go_simp; rfl)); intro gb145 hg w11 hbox hb; have n0_ := am (kbb (g := gb134) (o := .cells #[.int .i64 0, .int .i64 0, .string (⟨#[]⟩ : ByteArray)] 60 (0, 0)) (by (with_reducible repeat (first | apply kdn | apply kdr | apply kal)); exact BK134.out) hb); have n1_ := am (IsS119.below (by repeat (first | (with_reducible first | exact HI135.out | apply IsS119.alloc | apply IsS119.drewN | apply IsS119.drew | apply IsS119.set_0 | apply IsS119.set_1 | refine IsS119.far ?_ NB135_134.out _) | exact HI135.out)) hb); have n2_ := am (below_step (by repeat (first | (with_reducible first | exact HB.out | apply bal | apply pdn | apply bd1 | refine bst ?_ (IsS119.ge HI135.out) | refine bst ?_ GE134.out) | exact HB.out)) hb); have n3_ := am (hbox); have n4_ := am ((by rw [hg]; exact (below_size (by repeat (first | (with_reducible first | exact HB.out | apply bal | apply pdn | apply bd1 | refine bst ?_ (IsS119.ge HI135.out) | refine bst ?_ GE134.out) | exact HB.out))) : w.heap.size ≤ gb145)); have n5_ := am ((by rw [hg]; exact (below_size (by repeat (first | (with_reducible first | exact HB.out | apply bal | apply pdn | apply bd1 | refine bst ?_ (IsS119.ge HI135.out) | refine bst ?_ GE134.out) | exact HB.out))) : w.heap.size ≤ gb145)); have n6_ := am ((by rw [hg]; exact Nat.ne_of_lt (blk_lt (g := gb134) (o := .cells #[.int .i64 0, .int .i64 0, .string (⟨#[]⟩ : ByteArray)] 60 (0, 0)) (by (with_reducible repeat (first | apply kdn | apply kdr | apply kal)); exact BK134.out)) : gb134 ≠ gb145)); have n7_ := am ((by rw [hg]; exact Nat.ne_of_gt (blk_lt (g := gb134) (o := .cells #[.int .i64 0, .int .i64 0, .string (⟨#[]⟩ : ByteArray)] 60 (0, 0)) (by (with_reducible repeat (first | apply kdn | apply kdr | apply kal)); exact BK134.out)) : gb145 ≠ gb134)); have n8_ := am ((by rw [hg]; exact Nat.ne_of_lt (IsS119.lt (show IsS119 w _ gb135 t143 true from by repeat (first | (with_reducible first | exact HI135.out | apply IsS119.alloc | apply IsS119.drewN | apply IsS119.drew | apply IsS119.set_0 | apply IsS119.set_1 | refine IsS119.far ?_ NB135_134.out _) | exact HI135.out))) : gb135 ≠ gb145)); have n9_ := am ((by rw [hg]; exact Nat.ne_of_gt (IsS119.lt (show IsS119 w _ gb135 t143 true from by repeat (first | (with_reducible first | exact HI135.out | apply IsS119.alloc | apply IsS119.drewN | apply IsS119.drew | apply IsS119.set_0 | apply IsS119.set_1 | refine IsS119.far ?_ NB135_134.out _) | exact HI135.out))) : gb145 ≠ gb135)); clear BK134; clear HI135; clear HB; have BK134 := n0_; have HI135 := n1_; have HB := n2_; have BK145 := n3_; have GW145 := n4_; have GE145 := n5_; have NB134_145 := n6_; have NB145_134 := n7_; have NB135_145 := n8_; have NB145_135 := n9_; clear n0_ n1_ n2_ n3_ n4_ n5_ n6_ n7_ n8_ n9_; clear hb hbox hg; have hnb12 := NB145_134.out; have hnc12 := NB134_145.out; have hnb13 := NB145_135.out; have hnc13 := NB135_145.out; have hcz14_0 : w11.cell? ⟨gb145, 0, none⟩ = some (.int .i64 0) := (kce BK145.out 0).trans rfl; have hcz14_1 : w11.cell? ⟨gb145, 1, none⟩ = some (.int .i64 0) := (kce BK145.out 1).trans rfl; have hcz14_2 : w11.cell? ⟨gb145, 2, none⟩ = some (.string (⟨#[]⟩ : ByteArray)) := (kce BK145.out 2).trans rfl; have hfz14_0 := kfr BK145.out 0; have hfz14_1 := kfr BK145.out 1; have hfz14_2 := kfr BK145.out 2; have BK135 := am (HI135.out.1); clear HI135))
  have n0_ : Aside0 ((((w11.setCell ⟨gb145, 0, none⟩ (.int .i64 t136)).setCell ⟨gb145, 1, none⟩ (.int .i64 t139)).setCell ⟨gb145, 2, none⟩ (.string t142)).heap[gb134]? = some (.cells #[.int .i64 0, .int .i64 0, .string (⟨#[]⟩ : ByteArray)] 60 (0, 0))) := ⟨by (with_reducible repeat (first | apply kdn | apply kdr | apply kal)); refine blk_far ?_ NB134_145.out _; (with_reducible repeat (first | apply kdn | apply kdr | apply kal)); refine blk_far ?_ NB134_145.out _; (with_reducible repeat (first | apply kdn | apply kdr | apply kal)); refine blk_far ?_ NB134_145.out _; (with_reducible repeat (first | apply kdn | apply kdr | apply kal)); exact BK134.out⟩
  have n1_ : Aside0 ((((w11.setCell ⟨gb145, 0, none⟩ (.int .i64 t136)).setCell ⟨gb145, 1, none⟩ (.int .i64 t139)).setCell ⟨gb145, 2, none⟩ (.string t142)).heap[gb135]? = some (.cells #[.string t143, .bool true] 119 (0, 0))) := ⟨by (with_reducible repeat (first | apply kdn | apply kdr | apply kal)); refine blk_far ?_ NB135_145.out _; (with_reducible repeat (first | apply kdn | apply kdr | apply kal)); refine blk_far ?_ NB135_145.out _; (with_reducible repeat (first | apply kdn | apply kdr | apply kal)); refine blk_far ?_ NB135_145.out _; (with_reducible repeat (first | apply kdn | apply kdr | apply kal)); exact BK135.out⟩
  have n2_ : Aside0 ((((w11.setCell ⟨gb145, 0, none⟩ (.int .i64 t136)).setCell ⟨gb145, 1, none⟩ (.int .i64 t139)).setCell ⟨gb145, 2, none⟩ (.string t142)).heap[gb145]? = some (.cells #[.int .i64 t136, .int .i64 t139, .string t142] 60 (0, 0))) := ⟨by (with_reducible repeat (first | apply kdn | apply kdr | apply kal)); refine blk_put (cs := #[.int .i64 t136, .int .i64 t139, .string (⟨#[]⟩ : ByteArray)]) ?_ 2 _ rfl; (with_reducible repeat (first | apply kdn | apply kdr | apply kal)); refine blk_put (cs := #[.int .i64 t136, .int .i64 0, .string (⟨#[]⟩ : ByteArray)]) ?_ 1 _ rfl; (with_reducible repeat (first | apply kdn | apply kdr | apply kal)); refine blk_put (cs := #[.int .i64 0, .int .i64 0, .string (⟨#[]⟩ : ByteArray)]) ?_ 0 _ rfl; (with_reducible repeat (first | apply kdn | apply kdr | apply kal)); exact BK145.out⟩
  have n3_ : Aside0 (Below w.heap.size w (((w11.setCell ⟨gb145, 0, none⟩ (.int .i64 t136)).setCell ⟨gb145, 1, none⟩ (.int .i64 t139)).setCell ⟨gb145, 2, none⟩ (.string t142))) := ⟨by repeat (first | (with_reducible first | exact HB.out | apply bal | apply pdn | apply bd1 | refine bst ?_ GE134.out | refine bst ?_ GE135.out | refine bst ?_ GE145.out) | exact HB.out)⟩
  (try clear BK134)
  (try clear BK135)
  (try clear BK145)
  (try clear HB)
  generalize (((w11.setCell ⟨gb145, 0, none⟩ (.int .i64 t136)).setCell ⟨gb145, 1, none⟩ (.int .i64 t139)).setCell ⟨gb145, 2, none⟩ (.string t142)) = w15 at n0_ n1_ n2_ n3_ ⊢
  have BK134 := n0_
  have BK135 := n1_
  have BK145 := n2_
  have HB := n3_
  clear n0_ n1_ n2_ n3_
  have n0_ := am (kdr BK134.out)
  have n1_ := am (kdr BK135.out)
  have n2_ := am (kdr BK145.out)
  have n3_ := am (bd1 HB.out)
  clear BK134
  clear BK135
  clear BK145
  clear HB
  have BK134 := n0_
  have BK135 := n1_
  have BK145 := n2_
  have HB := n3_
  clear n0_ n1_ n2_ n3_
  refine start_ (n := 10) (S := fun w' => w'.cell? ⟨gb135, 0, none⟩ = some (.string t143) ∧ w'.cell? ⟨gb135, 1, none⟩ = some (.bool true)) (ds := []) #[false, false, false, false, false, false, false, false, false, false] (by kernel_rfl) rfl rfl ⟨(kce BK135.out 0).trans rfl, (kce BK135.out 1).trans rfl⟩ (fun hHeld => ?_); refine with_tabW impl_GetOp.tab3 impl_GetOp.bits3 (fun HT_ HW_ => ?_)
  generalize w15.drew = w16 at BK134 BK135 BK145 HB hHeld ⊢
  refine pure_ (i := 0) (N := some 17) (v := ?_) (a' := ?_) #[true, false, false, false, false, false, false, false, false, false] rfl rfl (any_of HT_.out (by kernel_rfl)) (fun _ _ _ h => h) (Or.inl ⟨by rfl, ?_⟩) ?_ ?_
  rotate_left
  ·intro w'
   go_simp
   with_reducible rfl
  rotate_left
  ·simp only [Act.put, sit, scz, scs, i64_w, i32_w]
   rfl
  refine pure_ (i := 1) (N := some 18) (v := ?_) (a' := ?_) #[true, true, false, false, false, false, false, false, false, false] rfl rfl (any_of HT_.out (by kernel_rfl)) (fun _ _ _ h => h) (Or.inl ⟨by rfl, ?_⟩) ?_ ?_
  rotate_left
  ·intro w'
   go_simp
   with_reducible rfl
  rotate_left
  ·simp only [Act.put, sit, scz, scs, i64_w, i32_w]
   rfl
  refine pure_ (i := 2) (N := some 19) (v := ?_) (a' := ?_) #[true, true, true, false, false, false, false, false, false, false] rfl rfl (any_of HT_.out (by kernel_rfl)) (fun _ _ _ h => h) (Or.inl ⟨by rfl, ?_⟩) ?_ ?_
  rotate_left
  ·intro w'
   go_simp
   with_reducible rfl
  rotate_left
  ·simp only [Act.put, sit, scz, scs, i64_w, i32_w]
   rfl
  refine take_ (i := 3) (N := some 20) (v := ?_) (a' := ?_) #[true, true, true, true, false, false, false, false, false, false] rfl rfl (take_ofW HT_.out HW_.out (by kernel_rfl)) (fun _ _ _ h => h) (Or.inl ⟨by rfl, ?_⟩) hHeld ?_ ?_
  rotate_left
  ·rintro w' ⟨s0, s1⟩
   go_simp
   with_reducible rfl
  rotate_left
  ·simp only [Act.put, sit, scz, scs, i64_w, i32_w]
   rfl
  refine pure_ (i := 4) (N := some 21) (v := ?_) (a' := ?_) #[true, true, true, true, true, false, false, false, false, false] rfl rfl (any_of HT_.out (by kernel_rfl)) (fun _ _ _ h => h) (Or.inl ⟨by rfl, ?_⟩) ?_ ?_
  rotate_left
  ·intro w'
   go_simp
   with_reducible rfl
  rotate_left
  ·simp only [Act.put, sit, scz, scs, i64_w, i32_w]
   rfl
  refine pure_ (i := 5) (N := some 22) (v := undef) (a' := ?_) #[true, true, true, true, true, true, false, false, false, false] rfl rfl (any_of HT_.out (by kernel_rfl)) (fun _ _ _ h => h) (Or.inr ⟨by rfl, rfl⟩) ?_ ?_
  rotate_left
  ·simp only [Act.put, sit, scz, scs, i64_w, i32_w]
   rfl
  refine pure_ (i := 6) (N := some 23) (v := undef) (a' := ?_) #[true, true, true, true, true, true, true, false, false, false] rfl rfl (any_of HT_.out (by kernel_rfl)) (fun _ _ _ h => h) (Or.inr ⟨by rfl, rfl⟩) ?_ ?_
  rotate_left
  ·simp only [Act.put, sit, scz, scs, i64_w, i32_w]
   rfl
  refine pure_ (i := 7) (N := some 24) (v := undef) (a' := ?_) #[true, true, true, true, true, true, true, true, false, false] rfl rfl (any_of HT_.out (by kernel_rfl)) (fun _ _ _ h => h) (Or.inr ⟨by rfl, rfl⟩) ?_ ?_
  rotate_left
  ·simp only [Act.put, sit, scz, scs, i64_w, i32_w]
   rfl
  refine pure_ (i := 8) (N := some 25) (v := undef) (a' := ?_) #[true, true, true, true, true, true, true, true, true, false] rfl rfl (any_of HT_.out (by kernel_rfl)) (fun _ _ _ h => h) (Or.inr ⟨by rfl, rfl⟩) ?_ ?_
  rotate_left
  ·simp only [Act.put, sit, scz, scs, i64_w, i32_w]
   rfl
  refine pure_ (i := 9) (N := some 26) (v := ?_) (a' := ?_) #[true, true, true, true, true, true, true, true, true, true] rfl rfl (any_of HT_.out (by kernel_rfl)) (fun _ _ _ h => h) (Or.inl ⟨by rfl, ?_⟩) ?_ ?_
  rotate_left
  ·intro w'
   go_simp
   with_reducible rfl
  rotate_left
  ·simp only [Act.put, sit, scz, scs, i64_w, i32_w]
   rfl
  refine done_ (done_of HT_.out (by kernel_rfl)) ?_
  have hnb17 := NB134_135.out
  have hnc17 := NB135_134.out
  have hcz18_0 : w16.cell? ⟨gb134, 0, none⟩ = some (.int .i64 0) := (kce BK134.out 0).trans rfl
  have hcz18_1 : w16.cell? ⟨gb134, 1, none⟩ = some (.int .i64 0) := (kce BK134.out 1).trans rfl
  have hcz18_2 : w16.cell? ⟨gb134, 2, none⟩ = some (.string (⟨#[]⟩ : ByteArray)) := (kce BK134.out 2).trans rfl
  have hfz18_0 := kfr BK134.out 0
  have hfz18_1 := kfr BK134.out 1
  have hfz18_2 := kfr BK134.out 2
  try go_wp2
  refine bodyPost_ret (results_ctt rfl _ _ gb134 60 #[.int .i64 0, .int .i64 0, .string (⟨#[]⟩ : ByteArray)] (0, 0) _ rfl (by (with_reducible repeat (first | apply kdn | apply kdr | apply kal)); refine blk_put (cs := #[.int .i64 0, .int .i64 0, .string (⟨#[]⟩ : ByteArray)]) ?_ 2 _ rfl; (with_reducible repeat (first | apply kdn | apply kdr | apply kal)); refine blk_put (cs := #[.int .i64 0, .int .i64 0, .string (⟨#[]⟩ : ByteArray)]) ?_ 1 _ rfl; (with_reducible repeat (first | apply kdn | apply kdr | apply kal)); refine blk_put (cs := #[.int .i64 0, .int .i64 0, .string (⟨#[]⟩ : ByteArray)]) ?_ 0 _ rfl; (with_reducible repeat (first | apply kdn | apply kdr | apply kal)); exact BK134.out) Try.underlying60 rfl (by kernel_rfl)) rfl ?_
  exact ⟨by first | rfl | (simp [errW_none, errW_some] <;> rfl) | (simp [*, errW_none, errW_some] <;> rfl), by repeat (first | (with_reducible first | exact HB.out | apply bal | apply pdn | apply bd1 | refine bst ?_ GE134.out | refine bst ?_ GE135.out | refine bst ?_ GE145.out) | exact HB.out)⟩
 ·replace c5 := Bool.eq_false_iff.mpr c5
  subst c5
  have H1 : ((impl_plainCode.f).bind fun bt146 => ((impl_OpOk.f k bt146.1 bt146.2 t136 t139 t142).bind fun t148 => (if t148 = true then (some (t136, t139, t142, wrap64 ((a0.size : Int) - (t143.size : Int)), true)) else (some (0, 0, (⟨#[]⟩ : ByteArray), 0, false))))) = some (r1, r2, r3, r4, r5) := by rw [if_neg (show ¬ (false = true) by decide)] at H; exact H
  clear H
  have H := H1
  clear H1
  replace H := Option.bind_eq_some_iff.mp H
  obtain ⟨⟨t146, t147⟩, A190, H⟩ := H
  replace H : ((impl_OpOk.f k t146 t147 t136 t139 t142).bind fun t148 => (if t148 = true then (some (t136, t139, t142, wrap64 ((a0.size : Int) - (t143.size : Int)), true)) else (some (0, 0, (⟨#[]⟩ : ByteArray), 0, false)))) = some (r1, r2, r3, r4, r5) := H
  have A19 := am A190
  clear A190
  replace H := Option.bind_eq_some_iff.mp H
  obtain ⟨t148, A200, H⟩ := H
  replace H : (if t148 = true then (some (t136, t139, t142, wrap64 ((a0.size : Int) - (t143.size : Int)), true)) else (some (0, 0, (⟨#[]⟩ : ByteArray), 0, false))) = some (r1, r2, r3, r4, r5) := H
  have A20 := am A200
  clear A200
  by_cases c21 : t148 = true
  ·subst c21
   have H1 : (some (t136, t139, t142, wrap64 ((a0.size : Int) - (t143.size : Int)), true)) = some (r1, r2, r3, r4, r5) := by rw [if_pos rfl] at H; exact H
   clear H
   have H := H1
   clear H1
   simp only [Option.some.injEq, Prod.mk.injEq] at H
   obtain ⟨rfl, rfl, rfl, rfl, rfl⟩ := H
   go_enter Try.func41, Try.ntmps41
   try go_wp2_with (first | ((with_reducible refine gate_dst (N := 2) rfl ?_); refine box_event ?hg (N := 2) ?hd (cs := #[.int .i64 0, .int .i64 0, .string (⟨#[]⟩ : ByteArray)]) (t := 60) ?hr ?_; (case hd => rfl); (case hg => rfl); (case hr => first | (go_simp; done) | (go_simp; rfl)); intro gb134 hg w22 hbox hb; have n0_ := am (below_step (by repeat (first | (with_reducible first | exact HB.out | apply bal | apply pdn | apply bd1) | exact HB.out)) hb); have n1_ := am (hbox); have n2_ := am ((by rw [hg]; exact (below_size (by repeat (first | (with_reducible first | exact HB.out | apply bal | apply pdn | apply bd1) | exact HB.out))) : w.heap.size ≤ gb134)); have n3_ := am ((by rw [hg]; exact (below_size (by repeat (first | (with_reducible first | exact HB.out | apply bal | apply pdn | apply bd1) | exact HB.out))) : w.heap.size ≤ gb134)); clear HB; have HB := n0_; have BK134 := n1_; have GW134 := n2_; have GE134 := n3_; clear n0_ n1_ n2_ n3_; clear hb hbox hg) | ((with_reducible refine gate_dst (N := 9) rfl ?_); refine box_event ?hg (N := 9) ?hd (cs := #[.string a0, .bool false]) (t := 119) ?hr ?_; (case hd => rfl); (case hg => rfl); (case hr => first | (go_simp; done) | (go_simp; rfl)); intro gb135 hg w23 hbox hb; have n0_ := am (kbb (g := gb134) (o := .cells #[.int .i64 0, .int .i64 0, .string (⟨#[]⟩ : ByteArray)] 60 (0, 0)) (by (with_reducible repeat (first | apply kdn | apply kdr | apply kal)); exact BK134.out) hb); have n1_ := am (below_step (by repeat (first | (with_reducible first | exact HB.out | apply bal | apply pdn | apply bd1 | refine bst ?_ GE134.out) | exact HB.out)) hb); have n2_ := am ((show IsS119 w _ gb135 a0 false from ⟨hbox, (by rw [hg]; exact (below_size (by repeat (first | (with_reducible first | exact HB.out | apply bal | apply pdn | apply bd1 | refine bst ?_ GE134.out) | exact HB.out))))⟩)); have n3_ := am ((by rw [hg]; exact (below_size (by repeat (first | (with_reducible first | exact HB.out | apply bal | apply pdn | apply bd1 | refine bst ?_ GE134.out) | exact HB.out))) : w.heap.size ≤ gb135)); have n4_ := am ((by rw [hg]; exact (below_size (by repeat (first | (with_reducible first | exact HB.out | apply bal | apply pdn | apply bd1 | refine bst ?_ GE134.out) | exact HB.out))) : w.heap.size ≤ gb135)); have n5_ := am ((by rw [hg]; exact Nat.ne_of_lt (blk_lt (g := gb134) (o := .cells #[.int .i64 0, .int .i64 0, .string (⟨#[]⟩ : ByteArray)] 60 (0, 0)) (by (with_reducible repeat (first | apply kdn | apply kdr | apply kal)); exact BK134.out)) : gb134 ≠ gb135)); have n6_ := am ((by rw [hg]; exact Nat.ne_of_gt (blk_lt (g := gb134) (o := .cells #[.int .i64 0, .int .i64 0, .string (⟨#[]⟩ : ByteArray)] 60 (0, 0)) (by (with_reducible repeat (first | apply kdn | apply kdr | apply kal)); exact BK134.out)) : gb135 ≠ gb134)); clear BK134; clear HB; have BK134 := n0_; have HB := n1_; have HI135 := n2_; have GW135 := n3_; have GE135 := n4_; have NB134_135 := n5_; have NB135_134 := n6_; clear n0_ n1_ n2_ n3_ n4_ n5_ n6_; clear hb hbox hg) | ((with_reducible refine gate_callee (f := 92) rfl ?_); refine goesL_ (some 11) rfl rfl Try.func92 (by kernel_rfl) rfl #[.pointer (some ⟨gb135, 0, none⟩)] rfl (by (try simp only [mta, mco, mni]); first | done | rfl | (simp only [lnd, lnt]; rfl)) ?_; (with_reducible refine (impl_binary_number.calls k gb135 a0 false t136 t137 t138 w _ ?side1 ?side2 A2.out).mono ?_); (case side1 => repeat (first | (with_reducible first | exact HI135.out | apply IsS119.alloc | apply IsS119.drewN | apply IsS119.drew | apply IsS119.set_0 | apply IsS119.set_1 | refine IsS119.far ?_ NB135_134.out _) | exact HI135.out)); (case side2 => repeat (first | (with_reducible first | exact HB.out | apply bal | apply pdn | apply bd1 | refine bst ?_ (IsS119.ge HI135.out) | refine bst ?_ GE134.out) | exact HB.out)); rintro e w24 ⟨rfl, hi, hb, hk⟩; refine ⟨_, rfl, ?_⟩; have n0_ := am (KeepBut.blk hk (g' := gb134) (o := .cells #[.int .i64 0, .int .i64 0, .string (⟨#[]⟩ : ByteArray)] 60 (0, 0)) (by (with_reducible repeat (first | apply kdn | apply kdr | apply kal)); exact BK134.out) NB134_135.out (by simp)); have n1_ := am (hb); have n2_ := am (hi); clear BK134; clear HB; clear HI135; have BK134 := n0_; have HB := n1_; have HI135 := n2_; clear n0_ n1_ n2_; (try clear hb); (try clear hb2); (try clear hk); (try clear hi)) | ((with_reducible refine gate_callee (f := 92) rfl ?_); refine goesL_ (some 13) rfl rfl Try.func92 (by kernel_rfl) rfl #[.pointer (some ⟨gb135, 0, none⟩)] rfl (by (try simp only [mta, mco, mni]); first | done | rfl | (simp only [lnd, lnt]; rfl)) ?_; (with_reducible refine (impl_binary_number.calls k gb135 t137 t138 t139 t140 t141 w _ ?side1 ?side2 A3.out).mono ?_); (case side1 => repeat (first | (with_reducible first | exact HI135.out | apply IsS119.alloc | apply IsS119.drewN | apply IsS119.drew | apply IsS119.set_0 | apply IsS119.set_1 | refine IsS119.far ?_ NB135_134.out _) | exact HI135.out)); (case side2 => repeat (first | (with_reducible first | exact HB.out | apply bal | apply pdn | apply bd1 | refine bst ?_ (IsS119.ge HI135.out) | refine bst ?_ GE134.out) | exact HB.out)); rintro e w25 ⟨rfl, hi, hb, hk⟩; refine ⟨_, rfl, ?_⟩; have n0_ := am (KeepBut.blk hk (g' := gb134) (o := .cells #[.int .i64 0, .int .i64 0, .string (⟨#[]⟩ : ByteArray)] 60 (0, 0)) (by (with_reducible repeat (first | apply kdn | apply kdr | apply kal)); exact BK134.out) NB134_135.out (by simp)); have n1_ := am (hb); have n2_ := am (hi); clear BK134; clear HB; clear HI135; have BK134 := n0_; have HB := n1_; have HI135 := n2_; clear n0_ n1_ n2_; (try clear hb); (try clear hb2); (try clear hk); (try clear hi)) | ((with_reducible refine gate_callee (f := 93) rfl ?_); refine goesL_ (some 15) rfl rfl Try.func93 (by kernel_rfl) rfl #[.pointer (some ⟨gb135, 0, none⟩)] rfl (by (try simp only [mta, mco, mni]); first | done | rfl | (simp only [lnd, lnt]; rfl)) ?_; (with_reducible refine (impl_binary_text.calls k gb135 t140 t141 t142 t143 false w _ ?side1 ?side2 A4.out).mono ?_); (case side1 => repeat (first | (with_reducible first | exact HI135.out | apply IsS119.alloc | apply IsS119.drewN | apply IsS119.drew | apply IsS119.set_0 | apply IsS119.set_1 | refine IsS119.far ?_ NB135_134.out _) | exact HI135.out)); (case side2 => repeat (first | (with_reducible first | exact HB.out | apply bal | apply pdn | apply bd1 | refine bst ?_ (IsS119.ge HI135.out) | refine bst ?_ GE134.out) | exact HB.out)); rintro e w26 ⟨rfl, hi, hb, hk⟩; refine ⟨_, rfl, ?_⟩; have n0_ := am (KeepBut.blk hk (g' := gb134) (o := .cells #[.int .i64 0, .int .i64 0, .string (⟨#[]⟩ : ByteArray)] 60 (0, 0)) (by (with_reducible repeat (first | apply kdn | apply kdr | apply kal)); exact BK134.out) NB134_135.out (by simp)); have n1_ := am (hb); have n2_ := am (hi); clear BK134; clear HB; clear HI135; have BK134 := n0_; have HB := n1_; have HI135 := n2_; clear n0_ n1_ n2_; (try clear hb); (try clear hb2); (try clear hk); (try clear hi)) | ((with_reducible refine gate_dst (N := 6) rfl ?_); refine box_event ?hg (N := 6) ?hd (cs := #[.int .i64 0, .int .i64 0, .string (⟨#[]⟩ : ByteArray)]) (t := 60) ?hr ?_; (case hd => rfl); (case hg => rfl); (case hr => first | (go_simp; done) | (go_simp; rfl)); intro gb145 hg w27 hbox hb; have n0_ := am (kbb (g := gb134) (o := .cells #[.int .i64 0, .int .i64 0, .string (⟨#[]⟩ : ByteArray)] 60 (0, 0)) (by (with_reducible repeat (first | apply kdn | apply kdr | apply kal)); exact BK134.out) hb); have n1_ := am (IsS119.below (by repeat (first | (with_reducible first | exact HI135.out | apply IsS119.alloc | apply IsS119.drewN | apply IsS119.drew | apply IsS119.set_0 | apply IsS119.set_1 | refine IsS119.far ?_ NB135_134.out _) | exact HI135.out)) hb); have n2_ := am (below_step (by repeat (first | (with_reducible first | exact HB.out | apply bal | apply pdn | apply bd1 | refine bst ?_ (IsS119.ge HI135.out) | refine bst ?_ GE134.out) | exact HB.out)) hb); have n3_ := am (hbox); have n4_ := am ((by rw [hg]; exact (below_size (by repeat (first | (with_reducible first | exact HB.out | apply bal | apply pdn | apply bd1 | refine bst ?_ (IsS119.ge HI135.out) | refine bst ?_ GE134.out) | exact HB.out))) : w.heap.size ≤ gb145)); have n5_ := am ((by rw [hg]; exact (below_size (by repeat (first | (with_reducible first | exact HB.out | apply bal | apply pdn | apply bd1 | refine bst ?_ (IsS119.ge HI135.out) | refine bst ?_ GE134.out) | exact HB.out))) : w.heap.size ≤ gb145)); have n6_ := am ((by rw [hg]; exact Nat.ne_of_lt (blk_lt (g := gb134) (o := .cells #[.int .i64 0, .int .i64 0, .string (⟨#[]⟩ : ByteArray)] 60 (0, 0)) (by (with_reducible repeat (first | apply kdn | apply kdr | apply kal)); exact BK134.out)) : gb134 ≠ gb145)); have n7_ := am ((by rw [hg]; exact Nat.ne_of_gt (blk_lt (g := gb134) (o := .cells #[.int .i64 0, .int .i64 0, .string (⟨#[]⟩ : ByteArray)] 60 (0, 0)) (by (with_reducible repeat (first | apply kdn | apply kdr | apply kal)); exact BK134.out)) : gb145 ≠ gb134)); have n8_ := am ((by rw [hg]; exact Nat.ne_of_lt (IsS119.lt (show IsS119 w _ gb135 t143 false from by repeat (first | (with_reducible first | exact HI135.out | apply IsS119.alloc | apply IsS119.drewN | apply IsS119.drew | apply IsS119.set_0 | apply IsS119.set_1 | refine IsS119.far ?_ NB135_134.out _) | exact HI135.out))) : gb135 ≠ gb145)); have n9_ := am ((by rw [hg]; exact Nat.ne_of_gt (IsS119.lt (show IsS119 w _ gb135 t143 false from by repeat (first | (with_reducible first | exact HI135.out | apply IsS119.alloc | apply IsS119.drewN | apply IsS119.drew | apply IsS119.set_0 | apply IsS119.set_1 | refine IsS119.far ?_ NB135_134.out _) | exact HI135.out))) : gb145 ≠ gb135)); clear BK134; clear HI135; clear HB; have BK134 := n0_; have HI135 := n1_; have HB := n2_; have BK145 := n3_; have GW145 := n4_; have GE145 := n5_; have NB134_145 := n6_; have NB145_134 := n7_; have NB135_145 := n8_; have NB145_135 := n9_; clear n0_ n1_ n2_ n3_ n4_ n5_ n6_ n7_ n8_ n9_; clear hb hbox hg; have hnb28 := NB145_134.out; have hnc28 := NB134_145.out; have hnb29 := NB145_135.out; have hnc29 := NB135_145.out; have hcz30_0 : w27.cell? ⟨gb145, 0, none⟩ = some (.int .i64 0) := (kce BK145.out 0).trans rfl; have hcz30_1 : w27.cell? ⟨gb145, 1, none⟩ = some (.int .i64 0) := (kce BK145.out 1).trans rfl; have hcz30_2 : w27.cell? ⟨gb145, 2, none⟩ = some (.string (⟨#[]⟩ : ByteArray)) := (kce BK145.out 2).trans rfl; have hfz30_0 := kfr BK145.out 0; have hfz30_1 := kfr BK145.out 1; have hfz30_2 := kfr BK145.out 2; have BK135 := am (HI135.out.1); clear HI135))
   have n0_ : Aside0 ((((w27.setCell ⟨gb145, 0, none⟩ (.int .i64 t136)).setCell ⟨gb145, 1, none⟩ (.int .i64 t139)).setCell ⟨gb145, 2, none⟩ (.string t142)).heap[gb134]? = some (.cells #[.int .i64 0, .int .i64 0, .string (⟨#[]⟩ : ByteArray)] 60 (0, 0))) := ⟨by (with_reducible repeat (first | apply kdn | apply kdr | apply kal)); refine blk_far ?_ NB134_145.out _; (with_reducible repeat (first | apply kdn | apply kdr | apply kal)); refine blk_far ?_ NB134_145.out _; (with_reducible repeat (first | apply kdn | apply kdr | apply kal)); refine blk_far ?_ NB134_145.out _; (with_reducible repeat (first | apply kdn | apply kdr | apply kal)); exact BK134.out⟩
   have n1_ : Aside0 ((((w27.setCell ⟨gb145, 0, none⟩ (.int .i64 t136)).setCell ⟨gb145, 1, none⟩ (.int .i64 t139)).setCell ⟨gb145, 2, none⟩ (.string t142)).heap[gb135]? = some (.cells #[.string t143, .bool false] 119 (0, 0))) := ⟨by (with_reducible repeat (first | apply kdn | apply kdr | apply kal)); refine blk_far ?_ NB135_145.out _; (with_reducible repeat (first | apply kdn | apply kdr | apply kal)); refine blk_far ?_ NB135_145.out _; (with_reducible repeat (first | apply kdn | apply kdr | apply kal)); refine blk_far ?_ NB135_145.out _; (with_reducible repeat (first | apply kdn | apply kdr | apply kal)); exact BK135.out⟩
   have n2_ : Aside0 ((((w27.setCell ⟨gb145, 0, none⟩ (.int .i64 t136)).setCell ⟨gb145, 1, none⟩ (.int .i64 t139)).setCell ⟨gb145, 2, none⟩ (.string t142)).heap[gb145]? = some (.cells #[.int .i64 t136, .int .i64 t139, .string t142] 60 (0, 0))) := ⟨by (with_reducible repeat (first | apply kdn | apply kdr | apply kal)); refine blk_put (cs := #[.int .i64 t136, .int .i64 t139, .string (⟨#[]⟩ : ByteArray)]) ?_ 2 _ rfl; (with_reducible repeat (first | apply kdn | apply kdr | apply kal)); refine blk_put (cs := #[.int .i64 t136, .int .i64 0, .string (⟨#[]⟩ : ByteArray)]) ?_ 1 _ rfl; (with_reducible repeat (first | apply kdn | apply kdr | apply kal)); refine blk_put (cs := #[.int .i64 0, .int .i64 0, .string (⟨#[]⟩ : ByteArray)]) ?_ 0 _ rfl; (with_reducible repeat (first | apply kdn | apply kdr | apply kal)); exact BK145.out⟩
   have n3_ : Aside0 (Below w.heap.size w (((w27.setCell ⟨gb145, 0, none⟩ (.int .i64 t136)).setCell ⟨gb145, 1, none⟩ (.int .i64 t139)).setCell ⟨gb145, 2, none⟩ (.string t142))) := ⟨by repeat (first | (with_reducible first | exact HB.out | apply bal | apply pdn | apply bd1 | refine bst ?_ GE134.out | refine bst ?_ GE135.out | refine bst ?_ GE145.out) | exact HB.out)⟩
   (try clear BK134)
   (try clear BK135)
   (try clear BK145)
   (try clear HB)
   generalize (((w27.setCell ⟨gb145, 0, none⟩ (.int .i64 t136)).setCell ⟨gb145, 1, none⟩ (.int .i64 t139)).setCell ⟨gb145, 2, none⟩ (.string t142)) = w31 at n0_ n1_ n2_ n3_ ⊢
   have BK134 := n0_
   have BK135 := n1_
   have BK145 := n2_
   have HB := n3_
   clear n0_ n1_ n2_ n3_
   have n0_ := am (kdr BK134.out)
   have n1_ := am (kdr BK135.out)
   have n2_ := am (kdr BK145.out)
   have n3_ := am (bd1 HB.out)
   clear BK134
   clear BK135
   clear BK145
   clear HB
   have BK134 := n0_
   have BK135 := n1_
   have BK145 := n2_
   have HB := n3_
   clear n0_ n1_ n2_ n3_
   refine start_ (n := 10) (S := fun w' => w'.cell? ⟨gb135, 0, none⟩ = some (.string t143) ∧ w'.cell? ⟨gb135, 1, none⟩ = some (.bool false) ∧ w'.cell? ⟨gb145, 0, none⟩ = some (.int .i64 t136) ∧ w'.cell? ⟨gb145, 1, none⟩ = some (.int .i64 t139) ∧ w'.cell? ⟨gb145, 2, none⟩ = some (.string t142)) (ds := []) #[false, false, false, false, false, false, false, false, false, false] (by kernel_rfl) rfl rfl ⟨(kce BK135.out 0).trans rfl, (kce BK135.out 1).trans rfl, (kce BK145.out 0).trans rfl, (kce BK145.out 1).trans rfl, (kce BK145.out 2).trans rfl⟩ (fun hHeld => ?_); refine with_tabW impl_GetOp.tab3 impl_GetOp.bits3 (fun HT_ HW_ => ?_)
   generalize w31.drew = w32 at BK134 BK135 BK145 HB hHeld ⊢
   refine pure_ (i := 0) (N := some 17) (v := ?_) (a' := ?_) #[true, false, false, false, false, false, false, false, false, false] rfl rfl (any_of HT_.out (by kernel_rfl)) (fun _ _ _ h => h) (Or.inl ⟨by rfl, ?_⟩) ?_ ?_
   rotate_left
   ·intro w'
    go_simp
    with_reducible rfl
   rotate_left
   ·simp only [Act.put, sit, scz, scs, i64_w, i32_w]
    rfl
   refine pure_ (i := 1) (N := some 18) (v := ?_) (a' := ?_) #[true, true, false, false, false, false, false, false, false, false] rfl rfl (any_of HT_.out (by kernel_rfl)) (fun _ _ _ h => h) (Or.inl ⟨by rfl, ?_⟩) ?_ ?_
   rotate_left
   ·intro w'
    go_simp
    with_reducible rfl
   rotate_left
   ·simp only [Act.put, sit, scz, scs, i64_w, i32_w]
    rfl
   refine pure_ (i := 2) (N := some 19) (v := ?_) (a' := ?_) #[true, true, true, false, false, false, false, false, false, false] rfl rfl (any_of HT_.out (by kernel_rfl)) (fun _ _ _ h => h) (Or.inl ⟨by rfl, ?_⟩) ?_ ?_
   rotate_left
   ·intro w'
    go_simp
    with_reducible rfl
   rotate_left
   ·simp only [Act.put, sit, scz, scs, i64_w, i32_w]
    rfl
   refine take_ (i := 3) (N := some 20) (v := ?_) (a' := ?_) #[true, true, true, true, false, false, false, false, false, false] rfl rfl (take_ofW HT_.out HW_.out (by kernel_rfl)) (fun _ _ _ h => h) (Or.inl ⟨by rfl, ?_⟩) hHeld ?_ ?_
   rotate_left
   ·rintro w' ⟨s0, s1, s2, s3, s4⟩
    go_simp
    with_reducible rfl
   rotate_left
   ·simp only [Act.put, sit, scz, scs, i64_w, i32_w]
    rfl
   refine pure_ (i := 4) (N := some 21) (v := ?_) (a' := ?_) #[true, true, true, true, true, false, false, false, false, false] rfl rfl (any_of HT_.out (by kernel_rfl)) (fun _ _ _ h => h) (Or.inl ⟨by rfl, ?_⟩) ?_ ?_
   rotate_left
   ·intro w'
    go_simp
    with_reducible rfl
   rotate_left
   ·simp only [Act.put, sit, scz, scs, i64_w, i32_w]
    rfl
   refine take_ (i := 6) (N := some 23) (v := ?_) (a' := ?_) #[true, true, true, true, true, false, true, false, false, false] rfl rfl (take_ofW HT_.out HW_.out (by kernel_rfl)) (fun _ _ _ h => h) (Or.inl ⟨by rfl, ?_⟩) hHeld ?_ ?_
   rotate_left
   ·rintro w' ⟨s0, s1, s2, s3, s4⟩
    go_simp
    with_reducible rfl
   rotate_left
   ·simp only [Act.put, sit, scz, scs, i64_w, i32_w]
    rfl
   refine one_ (i := 5) (N := some 22) #[true, true, true, true, true, true, true, false, false, false] rfl rfl (one_of HT_.out (by kernel_rfl)) (by decide) (fun K hK => ?_)
   refine goes_ Try.func87 (by kernel_rfl) rfl #[] (by rfl) rfl rfl (by (try simp only [mta, mco, mni]); first | done | rfl | (simp only [lnd, lnt]; rfl)) ?_
   with_reducible refine (impl_plainCode.calls  t146 t147 _ A19.out).mono ?_
   rintro e w33 ⟨rfl, hb⟩
   refine ⟨_, rfl, ?_⟩
   have n0_ := am (kbb (g := gb134) (o := .cells #[.int .i64 0, .int .i64 0, .string (⟨#[]⟩ : ByteArray)] 60 (0, 0)) (by (with_reducible repeat (first | apply kdn | apply kdr | apply kal)); exact BK134.out) hb)
   have n1_ := am (kbb (g := gb135) (o := .cells #[.string t143, .bool false] 119 (0, 0)) (by (with_reducible repeat (first | apply kdn | apply kdr | apply kal)); exact BK135.out) hb)
   have n2_ := am (kbb (g := gb145) (o := .cells #[.int .i64 t136, .int .i64 t139, .string t142] 60 (0, 0)) (by (with_reducible repeat (first | apply kdn | apply kdr | apply kal)); exact BK145.out) hb)
   have n3_ := am (below_step (by repeat (first | (with_reducible first | exact HB.out | apply bal | apply pdn | apply bd1 | refine bst ?_ GE134.out | refine bst ?_ GE135.out | refine bst ?_ GE145.out) | exact HB.out)) hb)
   clear BK134
   clear BK135
   clear BK145
   clear HB
   have BK134 := n0_
   have BK135 := n1_
   have BK145 := n2_
   have HB := n3_
   clear n0_ n1_ n2_ n3_
   refine hK.out _ _ ⟨(kce BK135.out 0).trans rfl, (kce BK135.out 1).trans rfl, (kce BK145.out 0).trans rfl, (kce BK145.out 1).trans rfl, (kce BK145.out 2).trans rfl⟩ (fun hHeld => ?_)
   clear hK K
   refine norm_ (a' := ?_) ?_ ?_
   rotate_left
   ·show Act.put _ (some 22) _ = _
    simp only [Act.put, sit, scz, scs, i64_w, i32_w]
    rfl
   refine one_ (i := 7) (N := some 24) #[true, true, true, true, true, true, true, true, false, false] rfl rfl (one_of HT_.out (by kernel_rfl)) (by decide) (fun K hK => ?_)
   refine goes_ Try.func86 (by kernel_rfl) rfl #[.agg #[.int .i64 t146, .int .i64 t147], .agg #[.int .i64 t136, .int .i64 t139, .string t142]] (by rfl) rfl rfl (by (try simp only [mta, mco, mni]); first | done | rfl | (simp only [lnd, lnt]; rfl)) ?_
   with_reducible refine (impl_OpOk.calls k t146 t147 t136 t139 t142 true _ A20.out).mono ?_
   rintro e w34 ⟨rfl, hb⟩
   refine ⟨_, rfl, ?_⟩
   have n0_ := am (kbb (g := gb134) (o := .cells #[.int .i64 0, .int .i64 0, .string (⟨#[]⟩ : ByteArray)] 60 (0, 0)) (by (with_reducible repeat (first | apply kdn | apply kdr | apply kal)); exact BK134.out) hb)
   have n1_ := am (kbb (g := gb135) (o := .cells #[.string t143, .bool false] 119 (0, 0)) (by (with_reducible repeat (first | apply kdn | apply kdr | apply kal)); exact BK135.out) hb)
   have n2_ := am (kbb (g := gb145) (o := .cells #[.int .i64 t136, .int .i64 t139, .string t142] 60 (0, 0)) (by (with_reducible repeat (first | apply kdn | apply kdr | apply kal)); exact BK145.out) hb)
   have n3_ := am (below_step (by repeat (first | (with_reducible first | exact HB.out | apply bal | apply pdn | apply bd1 | refine bst ?_ GE134.out | refine bst ?_ GE135.out | refine bst ?_ GE145.out) | exact HB.out)) hb)
   clear BK134
   clear BK135
   clear BK145
   clear HB
   have BK134 := n0_
   have BK135 := n1_
   have BK145 := n2_
   have HB := n3_
   clear n0_ n1_ n2_ n3_
   refine hK.out _ _ ⟨(kce BK135.out 0).trans rfl, (kce BK135.out 1).trans rfl, (kce BK145.out 0).trans rfl, (kce BK145.out 1).trans rfl, (kce BK145.out 2).trans rfl⟩ (fun hHeld => ?_)
   clear hK K
   refine norm_ (a' := ?_) ?_ ?_
   rotate_left
   ·show Act.put _ (some 24) _ = _
    simp only [Act.put, sit, scz, scs, i64_w, i32_w]
    rfl
   refine pure_ (i := 8) (N := some 25) (v := ?_) (a' := ?_) #[true, true, true, true, true, true, true, true, true, false] rfl rfl (any_of HT_.out (by kernel_rfl)) (fun _ _ _ h => h) (Or.inl ⟨by rfl, ?_⟩) ?_ ?_
   rotate_left
   ·intro w'
    go_simp
    with_reducible rfl
   rotate_left
   ·simp only [Act.put, sit, scz, scs, i64_w, i32_w]
    rfl
   refine pure_ (i := 9) (N := some 26) (v := ?_) (a' := ?_) #[true, true, true, true, true, true, true, true, true, true] rfl rfl (any_of HT_.out (by kernel_rfl)) (fun _ _ _ h => h) (Or.inl ⟨by rfl, ?_⟩) ?_ ?_
   rotate_left
   ·intro w'
    go_simp
    with_reducible rfl
   rotate_left
   ·simp only [Act.put, sit, scz, scs, i64_w, i32_w]
    rfl
   refine done_ (done_of HT_.out (by kernel_rfl)) ?_
   try go_wp2
   have n0_ := am (kdr BK134.out)
   have n1_ := am (kdr BK135.out)
   have n2_ := am (kdr BK145.out)
   have n3_ := am (bd1 HB.out)
   clear BK134
   clear BK135
   clear BK145
   clear HB
   have BK134 := n0_
   have BK135 := n1_
   have BK145 := n2_
   have HB := n3_
   clear n0_ n1_ n2_ n3_
   refine start_ (n := 12) (S := fun w' => w'.cell? ⟨gb145, 0, none⟩ = some (.int .i64 t136) ∧ w'.cell? ⟨gb145, 1, none⟩ = some (.int .i64 t139) ∧ w'.cell? ⟨gb145, 2, none⟩ = some (.string t142) ∧ w'.cell? ⟨gb135, 0, none⟩ = some (.string t143) ∧ w'.cell? ⟨gb135, 1, none⟩ = some (.bool false)) (ds := []) #[false, false, false, false, false, false, false, false, false, false, false, false] (by kernel_rfl) rfl rfl ⟨(kce BK145.out 0).trans rfl, (kce BK145.out 1).trans rfl, (kce BK145.out 2).trans rfl, (kce BK135.out 0).trans rfl, (kce BK135.out 1).trans rfl⟩ (fun hHeld => ?_); refine with_tabW impl_GetOp.tab5 impl_GetOp.bits5 (fun HT_ HW_ => ?_)
   generalize w34.drew = w35 at BK134 BK135 BK145 HB hHeld ⊢
   refine pure_ (i := 1) (N := some 29) (v := ?_) (a' := ?_) #[false, true, false, false, false, false, false, false, false, false, false, false] rfl rfl (any_of HT_.out (by kernel_rfl)) (fun _ _ _ h => h) (Or.inl ⟨by rfl, ?_⟩) ?_ ?_
   rotate_left
   ·intro w'
    go_simp
    with_reducible rfl
   rotate_left
   ·simp only [Act.put, sit, scz, scs, i64_w, i32_w]
    rfl
   refine pure_ (i := 2) (N := some 30) (v := ?_) (a' := ?_) #[false, true, true, false, false, false, false, false, false, false, false, false] rfl rfl (any_of HT_.out (by kernel_rfl)) (fun _ _ _ h => h) (Or.inl ⟨by rfl, ?_⟩) ?_ ?_
   rotate_left
   ·intro w'
    go_simp
    with_reducible rfl
   rotate_left
   ·simp only [Act.put, sit, scz, scs, i64_w, i32_w]
    rfl
   refine pure_ (i := 3) (N := some 31) (v := ?_) (a' := ?_) #[false, true, true, true, false, false, false, false, false, false, false, false] rfl rfl (any_of HT_.out (by kernel_rfl)) (fun _ _ _ h => h) (Or.inl ⟨by rfl, ?_⟩) ?_ ?_
   rotate_left
   ·intro w'
    go_simp
    with_reducible rfl
   rotate_left
   ·simp only [Act.put, sit, scz, scs, i64_w, i32_w]
    rfl
   refine pure_ (i := 4) (N := some 32) (v := ?_) (a' := ?_) #[false, true, true, true, true, false, false, false, false, false, false, false] rfl rfl (any_of HT_.out (by kernel_rfl)) (fun _ _ _ h => h) (Or.inl ⟨by rfl, ?_⟩) ?_ ?_
   rotate_left
   ·intro w'
    go_simp
    with_reducible rfl
   rotate_left
   ·simp only [Act.put, sit, scz, scs, i64_w, i32_w]
    rfl
   refine pure_ (i := 5) (N := some 33) (v := ?_) (a' := ?_) #[false, true, true, true, true, true, false, false, false, false, false, false] rfl rfl (any_of HT_.out (by kernel_rfl)) (fun _ _ _ h => h) (Or.inl ⟨by rfl, ?_⟩) ?_ ?_
   rotate_left
   ·intro w'
    go_simp
    with_reducible rfl
   rotate_left
   ·simp only [Act.put, sit, scz, scs, i64_w, i32_w]
    rfl
   refine take_ (i := 0) (N := some 28) (v := ?_) (a' := ?_) #[true, true, true, true, true, true, false, false, false, false, false, false] rfl rfl (take_ofW HT_.out HW_.out (by kernel_rfl)) (fun _ _ _ h => h) (Or.inl ⟨by rfl, ?_⟩) hHeld ?_ ?_
   rotate_left
   ·rintro w' ⟨s0, s1, s2, s3, s4⟩
    go_simp
    with_reducible rfl
   rotate_left
   ·simp only [Act.put, sit, scz, scs, i64_w, i32_w]
    rfl
   refine take_ (i := 6) (N := some 34) (v := ?_) (a' := ?_) #[true, true, true, true, true, true, true, false, false, false, false, false] rfl rfl (take_ofW HT_.out HW_.out (by kernel_rfl)) (fun _ _ _ h => h) (Or.inl ⟨by rfl, ?_⟩) hHeld ?_ ?_
   rotate_left
   ·rintro w' ⟨s0, s1, s2, s3, s4⟩
    go_simp
    with_reducible rfl
   rotate_left
   ·simp only [Act.put, sit, scz, scs, i64_w, i32_w]
    rfl
   refine pure_ (i := 7) (N := some 35) (v := ?_) (a' := ?_) #[true, true, true, true, true, true, true, true, false, false, false, false] rfl rfl (any_of HT_.out (by kernel_rfl)) (fun _ _ _ h => h) (Or.inl ⟨by rfl, ?_⟩) ?_ ?_
   rotate_left
   ·intro w'
    go_simp
    with_reducible rfl
   rotate_left
   ·simp only [Act.put, sit, scz, scs, i64_w, i32_w]
    rfl
   refine pure_ (i := 8) (N := some 36) (v := ?_) (a' := ?_) #[true, true, true, true, true, true, true, true, true, false, false, false] rfl rfl (any_of HT_.out (by kernel_rfl)) (fun _ _ _ h => h) (Or.inl ⟨by rfl, ?_⟩) ?_ ?_
   rotate_left
   ·intro w'
    go_simp
    with_reducible rfl
   rotate_left
   ·simp only [Act.put, sit, scz, scs, i64_w, i32_w]
    rfl
   refine one_ (i := 9) (N := none) #[true, true, true, true, true, true, true, true, true, true, false, false] rfl rfl (one_of HT_.out (by kernel_rfl)) (by decide) (fun K hK => ?_)
   have hs36 : w35.cell? ⟨gb134, 0, none⟩ = some (.int .i64 0) := (kce BK134.out 0).trans rfl
   have hfs36 := kfr BK134.out 0
   have hns36_1 := NB135_134.out
   have hns36_2 := NB145_134.out
   have hms36_1 := NB134_135.out
   have hms36_2 := NB134_145.out
   have hs37 : w35.cell? ⟨gb134, 1, none⟩ = some (.int .i64 0) := (kce BK134.out 1).trans rfl
   have hfs37 := kfr BK134.out 1
   have hns37_1 := NB135_134.out
   have hns37_2 := NB145_134.out
   have hms37_1 := NB134_135.out
   have hms37_2 := NB134_145.out
   have hs38 : w35.cell? ⟨gb134, 2, none⟩ = some (.string (⟨#[]⟩ : ByteArray)) := (kce BK134.out 2).trans rfl
   have hfs38 := kfr BK134.out 2
   have hns38_1 := NB135_134.out
   have hns38_2 := NB145_134.out
   have hms38_1 := NB134_135.out
   have hms38_2 := NB134_145.out
   refine skip_ (w1 := ?_) (by rfl) rfl ?_ ?_
   rotate_left
   ·go_simp
    rfl
   refine hK.out _ _ ⟨((cell_far (p := ⟨gb134, _, none⟩) NB145_134.out _).trans (((cell_far (p := ⟨gb134, _, none⟩) NB145_134.out _).trans (((cell_far (p := ⟨gb134, _, none⟩) NB145_134.out _).trans (hHeld.1)))))), ((cell_far (p := ⟨gb134, _, none⟩) NB145_134.out _).trans (((cell_far (p := ⟨gb134, _, none⟩) NB145_134.out _).trans (((cell_far (p := ⟨gb134, _, none⟩) NB145_134.out _).trans (hHeld.2.1)))))), ((cell_far (p := ⟨gb134, _, none⟩) NB145_134.out _).trans (((cell_far (p := ⟨gb134, _, none⟩) NB145_134.out _).trans (((cell_far (p := ⟨gb134, _, none⟩) NB145_134.out _).trans (hHeld.2.2.1)))))), ((cell_far (p := ⟨gb134, _, none⟩) NB135_134.out _).trans (((cell_far (p := ⟨gb134, _, none⟩) NB135_134.out _).trans (((cell_far (p := ⟨gb134, _, none⟩) NB135_134.out _).trans (hHeld.2.2.2.1)))))), ((cell_far (p := ⟨gb134, _, none⟩) NB135_134.out _).trans (((cell_far (p := ⟨gb134, _, none⟩) NB135_134.out _).trans (((cell_far (p := ⟨gb134, _, none⟩) NB135_134.out _).trans (hHeld.2.2.2.2))))))⟩ (fun hHeld => ?_)
   clear hK K
   refine pure_ (i := 10) (N := some 3) (v := ?_) (a' := ?_) #[true, true, true, true, true, true, true, true, true, true, true, false] rfl rfl (any_of HT_.out (by kernel_rfl)) (fun _ _ _ h => h) (Or.inl ⟨by rfl, ?_⟩) ?_ ?_
   rotate_left
   ·intro w'
    go_simp
    with_reducible rfl
   rotate_left
   ·simp only [Act.put, sit, scz, scs, i64_w, i32_w]
    rfl
   refine pure_ (i := 11) (N := some 4) (v := ?_) (a' := ?_) #[true, true, true, true, true, true, true, true, true, true, true, true] rfl rfl (any_of HT_.out (by kernel_rfl)) (fun _ _ _ h => h) (Or.inl ⟨by rfl, ?_⟩) ?_ ?_
   rotate_left
   ·intro w'
    go_simp
    with_reducible rfl
   rotate_left
   ·simp only [Act.put, sit, scz, scs, i64_w, i32_w]
    rfl
   refine done_ (done_of HT_.out (by kernel_rfl)) ?_
   try go_wp2
   refine bodyPost_ret (results_ctt rfl _ _ gb134 60 #[.int .i64 t136, .int .i64 t139, .string t142] (0, 0) _ rfl (by (with_reducible repeat (first | apply kdn | apply kdr | apply kal)); refine blk_put (cs := #[.int .i64 t136, .int .i64 t139, .string (⟨#[]⟩ : ByteArray)]) ?_ 2 _ rfl; (with_reducible repeat (first | apply kdn | apply kdr | apply kal)); refine blk_put (cs := #[.int .i64 t136, .int .i64 0, .string (⟨#[]⟩ : ByteArray)]) ?_ 1 _ rfl; (with_reducible repeat (first | apply kdn | apply kdr | apply kal)); refine blk_put (cs := #[.int .i64 0, .int .i64 0, .string (⟨#[]⟩ : ByteArray)]) ?_ 0 _ rfl; (with_reducible repeat (first | apply kdn | apply kdr | apply kal)); exact BK134.out) Try.underlying60 rfl (by kernel_rfl)) rfl ?_
   exact ⟨by first | rfl | (simp [errW_none, errW_some] <;> rfl) | (simp [*, errW_none, errW_some] <;> rfl), by repeat (first | (with_reducible first | exact HB.out | apply bal | apply pdn | apply bd1 | refine bst ?_ GE134.out | refine bst ?_ GE135.out | refine bst ?_ GE145.out) | exact HB.out)⟩
  ·replace c21 := Bool.eq_false_iff.mpr c21
   subst c21
   have H1 : (some (0, 0, (⟨#[]⟩ : ByteArray), 0, false)) = some (r1, r2, r3, r4, r5) := by rw [if_neg (show ¬ (false = true) by decide)] at H; exact H
   clear H
   have H := H1
   clear H1
   simp only [Option.some.injEq, Prod.mk.injEq] at H
   obtain ⟨rfl, rfl, rfl, rfl, rfl⟩ := H
   go_enter Try.func41, Try.ntmps41
   try go_wp2_with (first | ((with_reducible refine gate_dst (N := 2) rfl ?_); refine box_event ?hg (N := 2) ?hd (cs := #[.int .i64 0, .int .i64 0, .string (⟨#[]⟩ : ByteArray)]) (t := 60) ?hr ?_; (case hd => rfl); (case hg => rfl); (case hr => first | (go_simp; done) | (go_simp; rfl)); intro gb134 hg w39 hbox hb; have n0_ := am (below_step (by repeat (first | (with_reducible first | exact HB.out | apply bal | apply pdn | apply bd1) | exact HB.out)) hb); have n1_ := am (hbox); have n2_ := am ((by rw [hg]; exact (below_size (by repeat (first | (with_reducible first | exact HB.out | apply bal | apply pdn | apply bd1) | exact HB.out))) : w.heap.size ≤ gb134)); have n3_ := am ((by rw [hg]; exact (below_size (by repeat (first | (with_reducible first | exact HB.out | apply bal | apply pdn | apply bd1) | exact HB.out))) : w.heap.size ≤ gb134)); clear HB; have HB := n0_; have BK134 := n1_; have GW134 := n2_; have GE134 := n3_; clear n0_ n1_ n2_ n3_; clear hb hbox hg) | ((with_reducible refine gate_dst (N := 9) rfl ?_); refine box_event ?hg (N := 9) ?hd (cs := #[.string a0, .bool false]) (t := 119) ?hr ?_; (case hd => rfl); (case hg => rfl); (case hr => first | (go_simp; done) | (go_simp; rfl)); intro gb135 hg w40 hbox hb; have n0_ := am (kbb (g := gb134) (o := .cells #[.int .i64 0, .int .i64 0, .string (⟨#[]⟩ : ByteArray)] 60 (0, 0)) (by (with_reducible repeat (first | apply kdn | apply kdr | apply kal)); exact BK134.out) hb); have n1_ := am (below_step (by repeat (first | (with_reducible first | exact HB.out | apply bal | apply pdn | apply bd1 | refine bst ?_ GE134.out) | exact HB.out)) hb); have n2_ := am ((show IsS119 w _ gb135 a0 false from ⟨hbox, (by rw [hg]; exact (below_size (by repeat (first | (with_reducible first | exact HB.out | apply bal | apply pdn | apply bd1 | refine bst ?_ GE134.out) | exact HB.out))))⟩)); have n3_ := am ((by rw [hg]; exact (below_size (by repeat (first | (with_reducible first | exact HB.out | apply bal | apply pdn | apply bd1 | refine bst ?_ GE134.out) | exact HB.out))) : w.heap.size ≤ gb135)); have n4_ := am ((by rw [hg]; exact (below_size (by repeat (first | (with_reducible first | exact HB.out | apply bal | apply pdn | apply bd1 | refine bst ?_ GE134.out) | exact HB.out))) : w.heap.size ≤ gb135)); have n5_ := am ((by rw [hg]; exact Nat.ne_of_lt (blk_lt (g := gb134) (o := .cells #[.int .i64 0, .int .i64 0, .string (⟨#[]⟩ : ByteArray)] 60 (0, 0)) (by (with_reducible repeat (first | apply kdn | apply kdr | apply kal)); exact BK134.out)) : gb134 ≠ gb135)); have n6_ := am ((by rw [hg]; exact Nat.ne_of_gt (blk_lt (g := gb134) (o := .cells #[.int .i64 0, .int .i64 0, .string (⟨#[]⟩ : ByteArray)] 60 (0, 0)) (by (with_reducible repeat (first | apply kdn | apply kdr | apply kal)); exact BK134.out)) : gb135 ≠ gb134)); clear BK134; clear HB; have BK134 := n0_; have HB := n1_; have HI135 := n2_; have GW135 := n3_; have GE135 := n4_; have NB134_135 := n5_; have NB135_134 := n6_; clear n0_ n1_ n2_ n3_ n4_ n5_ n6_; clear hb hbox hg) | ((with_reducible refine gate_callee (f := 92) rfl ?_); refine goesL_ (some 11) rfl rfl Try.func92 (by kernel_rfl) rfl #[.pointer (some ⟨gb135, 0, none⟩)] rfl (by (try simp only [mta, mco, mni]); first | done | rfl | (simp only [lnd, lnt]; rfl)) ?_; (with_reducible refine (impl_binary_number.calls k gb135 a0 false t136 t137 t138 w _ ?side1 ?side2 A2.out).mono ?_); (case side1 => repeat (first | (with_reducible first | exact HI135.out | apply IsS119.alloc | apply IsS119.drewN | apply IsS119.drew | apply IsS119.set_0 | apply IsS119.set_1 | refine IsS119.far ?_ NB135_134.out _) | exact HI135.out)); (case side2 => repeat (first | (with_reducible first | exact HB.out | apply bal | apply pdn | apply bd1 | refine bst ?_ (IsS119.ge HI135.out) | refine bst ?_ GE134.out) | exact HB.out)); rintro e w41 ⟨rfl, hi, hb, hk⟩; refine ⟨_, rfl, ?_⟩; have n0_ := am (KeepBut.blk hk (g' := gb134) (o := .cells #[.int .i64 0, .int .i64 0, .string (⟨#[]⟩ : ByteArray)] 60 (0, 0)) (by (with_reducible repeat (first | apply kdn | apply kdr | apply kal)); exact BK134.out) NB134_135.out (by simp)); have n1_ := am (hb); have n2_ := am (hi); clear BK134; clear HB; clear HI135; have BK134 := n0_; have HB := n1_; have HI135 := n2_; clear n0_ n1_ n2_; (try clear hb); (try clear hb2); (try clear hk); (try clear hi)) | ((with_reducible refine gate_callee (f := 92) rfl ?_); refine goesL_ (some 13) rfl rfl Try.func92 (by kernel_rfl) rfl #[.pointer (some ⟨gb135, 0, none⟩)] rfl (by (try simp only [mta, mco, mni]); first | done | rfl | (simp only [lnd, lnt]; rfl)) ?_; (with_reducible refine (impl_binary_number.calls k gb135 t137 t138 t139 t140 t141 w _ ?side1 ?side2 A3.out).mono ?_); (case side1 => repeat (first | (with_reducible first | exact HI135.out | apply IsS119.alloc | apply IsS119.drewN | apply IsS119.drew | apply IsS119.set_0 | apply IsS119.set_1 | refine IsS119.far ?_ NB135_134.out _) | exact HI135.out)); (case side2 => repeat (first | (with_reducible first | exact HB.out | apply bal | apply pdn | apply bd1 | refine bst ?_ (IsS119.ge HI135.out) | refine bst ?_ GE134.out) | exact HB.out)); rintro e w42 ⟨rfl, hi, hb, hk⟩; refine ⟨_, rfl, ?_⟩; have n0_ := am (KeepBut.blk hk (g' := gb134) (o := .cells #[.int .i64 0, .int .i64 0, .string (⟨#[]⟩ : ByteArray)] 60 (0, 0)) (by (with_reducible repeat (first | apply kdn | apply kdr | apply kal)); exact BK134.out) NB134_135.out (by simp)); have n1_ := am (hb); have n2_ := am (hi); clear BK134; clear HB; clear HI135; have BK134 := n0_; have HB := n1_; have HI135 := n2_; clear n0_ n1_ n2_; (try clear hb); (try clear hb2); (try clear hk); (try clear hi)) | ((with_reducible refine gate_callee (f := 93) rfl ?_); refine goesL_ (some 15) rfl rfl Try.func93 (by kernel_rfl) rfl #[.pointer (some ⟨gb135, 0, none⟩)] rfl (by (try simp only [mta, mco, mni]); first | done | rfl | (simp only [lnd, lnt]; rfl)) ?_; (with_reducible refine (impl_binary_text.calls k gb135 t140 t141 t142 t143 false w _ ?side1 ?side2 A4.out).mono ?_); (case side1 => repeat (first | (with_reducible first | exact HI135.out | apply IsS119.alloc | apply IsS119.drewN | apply IsS119.drew | apply IsS119.set_0 | apply IsS119.set_1 | refine IsS119.far ?_ NB135_134.out _) | exact HI135.out)); (case side2 => repeat (first | (with_reducible first | exact HB.out | apply bal | apply pdn | apply bd1 | refine bst ?_ (IsS119.ge HI135.out) | refine bst ?_ GE134.out) | exact HB.out)); rintro e w43 ⟨rfl, hi, hb, hk⟩; refine ⟨_, rfl, ?_⟩; have n0_ := am (KeepBut.blk hk (g' := gb134) (o := .cells #[.int .i64 0, .int .i64 0, .string (⟨#[]⟩ : ByteArray)] 60 (0, 0)) (by (with_reducible repeat (first | apply kdn | apply kdr | apply kal)); exact BK134.out) NB134_135.out (by simp)); have n1_ := am (hb); have n2_ := am (hi); clear BK134; clear HB; clear HI135; have BK134 := n0_; have HB := n1_; have HI135 := n2_; clear n0_ n1_ n2_; (try clear hb); (try clear hb2); (try clear hk); (try clear hi)) | ((with_reducible refine gate_dst (N := 6) rfl ?_); refine box_event ?hg (N := 6) ?hd (cs := #[.int .i64 0, .int .i64 0, .string (⟨#[]⟩ : ByteArray)]) (t := 60) ?hr ?_; (case hd => rfl); (case hg => rfl); (case hr => first | (go_simp; done) | (go_simp; rfl)); intro gb145 hg w44 hbox hb; have n0_ := am (kbb (g := gb134) (o := .cells #[.int .i64 0, .int .i64 0, .string (⟨#[]⟩ : ByteArray)] 60 (0, 0)) (by (with_reducible repeat (first | apply kdn | apply kdr | apply kal)); exact BK134.out) hb); have n1_ := am (IsS119.below (by repeat (first | (with_reducible first | exact HI135.out | apply IsS119.alloc | apply IsS119.drewN | apply IsS119.drew | apply IsS119.set_0 | apply IsS119.set_1 | refine IsS119.far ?_ NB135_134.out _) | exact HI135.out)) hb); have n2_ := am (below_step (by repeat (first | (with_reducible first | exact HB.out | apply bal | apply pdn | apply bd1 | refine bst ?_ (IsS119.ge HI135.out) | refine bst ?_ GE134.out) | exact HB.out)) hb); have n3_ := am (hbox); have n4_ := am ((by rw [hg]; exact (below_size (by repeat (first | (with_reducible first | exact HB.out | apply bal | apply pdn | apply bd1 | refine bst ?_ (IsS119.ge HI135.out) | refine bst ?_ GE134.out) | exact HB.out))) : w.heap.size ≤ gb145)); have n5_ := am ((by rw [hg]; exact (below_size (by repeat (first | (with_reducible first | exact HB.out | apply bal | apply pdn | apply bd1 | refine bst ?_ (IsS119.ge HI135.out) | refine bst ?_ GE134.out) | exact HB.out))) : w.heap.size ≤ gb145)); have n6_ := am ((by rw [hg]; exact Nat.ne_of_lt (blk_lt (g := gb134) (o := .cells #[.int .i64 0, .int .i64 0, .string (⟨#[]⟩ : ByteArray)] 60 (0, 0)) (by (with_reducible repeat (first | apply kdn | apply kdr | apply kal)); exact BK134.out)) : gb134 ≠ gb145)); have n7_ := am ((by rw [hg]; exact Nat.ne_of_gt (blk_lt (g := gb134) (o := .cells #[.int .i64 0, .int .i64 0, .string (⟨#[]⟩ : ByteArray)] 60 (0, 0)) (by (with_reducible repeat (first | apply kdn | apply kdr | apply kal)); exact BK134.out)) : gb145 ≠ gb134)); have n8_ := am ((by rw [hg]; exact Nat.ne_of_lt (IsS119.lt (show IsS119 w _ gb135 t143 false from by repeat (first | (with_reducible first | exact HI135.out | apply IsS119.alloc | apply IsS119.drewN | apply IsS119.drew | apply IsS119.set_0 | apply IsS119.set_1 | refine IsS119.far ?_ NB135_134.out _) | exact HI135.out))) : gb135 ≠ gb145)); have n9_ := am ((by rw [hg]; exact Nat.ne_of_gt (IsS119.lt (show IsS119 w _ gb135 t143 false from by repeat (first | (with_reducible first | exact HI135.out | apply IsS119.alloc | apply IsS119.drewN | apply IsS119.drew | apply IsS119.set_0 | apply IsS119.set_1 | refine IsS119.far ?_ NB135_134.out _) | exact HI135.out))) : gb145 ≠ gb135)); clear BK134; clear HI135; clear HB; have BK134 := n0_; have HI135 := n1_; have HB := n2_; have BK145 := n3_; have GW145 := n4_; have GE145 := n5_; have NB134_145 := n6_; have NB145_134 := n7_; have NB135_145 := n8_; have NB145_135 := n9_; clear n0_ n1_ n2_ n3_ n4_ n5_ n6_ n7_ n8_ n9_; clear hb hbox hg; have hnb45 := NB145_134.out; have hnc45 := NB134_145.out; have hnb46 := NB145_135.out; have hnc46 := NB135_145.out; have hcz47_0 : w44.cell? ⟨gb145, 0, none⟩ = some (.int .i64 0) := (kce BK145.out 0).trans rfl; have hcz47_1 : w44.cell? ⟨gb145, 1, none⟩ = some (.int .i64 0) := (kce BK145.out 1).trans rfl; have hcz47_2 : w44.cell? ⟨gb145, 2, none⟩ = some (.string (⟨#[]⟩ : ByteArray)) := (kce BK145.out 2).trans rfl; have hfz47_0 := kfr BK145.out 0; have hfz47_1 := kfr BK145.out 1; have hfz47_2 := kfr BK145.out 2; have BK135 := am (HI135.out.1); clear HI135))
   have n0_ : Aside0 ((((w44.setCell ⟨gb145, 0, none⟩ (.int .i64 t136)).setCell ⟨gb145, 1, none⟩ (.int .i64 t139)).setCell ⟨gb145, 2, none⟩ (.string t142)).heap[gb134]? = some (.cells #[.int .i64 0, .int .i64 0, .string (⟨#[]⟩ : ByteArray)] 60 (0, 0))) := ⟨by (with_reducible repeat (first | apply kdn | apply kdr | apply kal)); refine blk_far ?_ NB134_145.out _; (with_reducible repeat (first | apply kdn | apply kdr | apply kal)); refine blk_far ?_ NB134_145.out _; (with_reducible repeat (first | apply kdn | apply kdr | apply kal)); refine blk_far ?_ NB134_145.out _; (with_reducible repeat (first | apply kdn | apply kdr | apply kal)); exact BK134.out⟩
   have n1_ : Aside0 ((((w44.setCell ⟨gb145, 0, none⟩ (.int .i64 t136)).setCell ⟨gb145, 1, none⟩ (.int .i64 t139)).setCell ⟨gb145, 2, none⟩ (.string t142)).heap[gb135]? = some (.cells #[.string t143, .bool false] 119 (0, 0))) := ⟨by (with_reducible repeat (first | apply kdn | apply kdr | apply kal)); refine blk_far ?_ NB135_145.out _; (with_reducible repeat (first | apply kdn | apply kdr | apply kal)); refine blk_far ?_ NB135_145.out _; (with_reducible repeat (first | apply kdn | apply kdr | apply kal)); refine blk_far ?_ NB135_145.out _; (with_reducible repeat (first | apply kdn | apply kdr | apply kal)); exact BK135.out⟩
   have n2_ : Aside0 ((((w44.setCell ⟨gb145, 0, none⟩ (.int .i64 t136)).setCell ⟨gb145, 1, none⟩ (.int .i64 t139)).setCell ⟨gb145, 2, none⟩ (.string t142)).heap[gb145]? = some (.cells #[.int .i64 t136, .int .i64 t139, .string t142] 60 (0, 0))) := ⟨by (with_reducible repeat (first | apply kdn | apply kdr | apply kal)); refine blk_put (cs := #[.int .i64 t136, .int .i64 t139, .string (⟨#[]⟩ : ByteArray)]) ?_ 2 _ rfl; (with_reducible repeat (first | apply kdn | apply kdr | apply kal)); refine blk_put (cs := #[.int .i64 t136, .int .i64 0, .string (⟨#[]⟩ : ByteArray)]) ?_ 1 _ rfl; (with_reducible repeat (first | apply kdn | apply kdr | apply kal)); refine blk_put (cs := #[.int .i64 0, .int .i64 0, .string (⟨#[]⟩ : ByteArray)]) ?_ 0 _ rfl; (with_reducible repeat (first | apply kdn | apply kdr | apply kal)); exact BK145.out⟩
   have n3_ : Aside0 (Below w.heap.size w (((w44.setCell ⟨gb145, 0, none⟩ (.int .i64 t136)).setCell ⟨gb145, 1, none⟩ (.int .i64 t139)).setCell ⟨gb145, 2, none⟩ (.string t142))) := ⟨by repeat (first | (with_reducible first | exact HB.out | apply bal | apply pdn | apply bd1 | refine bst ?_ GE134.out | refine bst ?_ GE135.out | refine bst ?_ GE145.out) | exact HB.out)⟩
   (try clear BK134)
   (try clear BK135)
   (try clear BK145)
   (try clear HB)
   generalize (((w44.setCell ⟨gb145, 0, none⟩ (.int .i64 t136)).setCell ⟨gb145, 1, none⟩ (.int .i64 t139)).setCell ⟨gb145, 2, none⟩ (.string t142)) = w48 at n0_ n1_ n2_ n3_ ⊢
   have BK134 := n0_
   have BK135 := n1_
   have BK145 := n2_
   have HB := n3_
   clear n0_ n1_ n2_ n3_
   have n0_ := am (kdr BK134.out)
   have n1_ := am (kdr BK135.out)
   have n2_ := am (kdr BK145.out)
   have n3_ := am (bd1 HB.out)
   clear BK134
   clear BK135
   clear BK145
   clear HB
   have BK134 := n0_
   have BK135 := n1_
   have BK145 := n2_
   have HB := n3_
   clear n0_ n1_ n2_ n3_
   refine start_ (n := 10) (S := fun w' => w'.cell? ⟨gb135, 0, none⟩ = some (.string t143) ∧ w'.cell? ⟨gb135, 1, none⟩ = some (.bool false) ∧ w'.cell? ⟨gb145, 0, none⟩ = some (.int .i64 t136) ∧ w'.cell? ⟨gb145, 1, none⟩ = some (.int .i64 t139) ∧ w'.cell? ⟨gb145, 2, none⟩ = some (.string t142)) (ds := []) #[false, false, false, false, false, false, false, false, false, false] (by kernel_rfl) rfl rfl ⟨(kce BK135.out 0).trans rfl, (kce BK135.out 1).trans rfl, (kce BK145.out 0).trans rfl, (kce BK145.out 1).trans rfl, (kce BK145.out 2).trans rfl⟩ (fun hHeld => ?_); refine with_tabW impl_GetOp.tab3 impl_GetOp.bits3 (fun HT_ HW_ => ?_)
   generalize w48.drew = w49 at BK134 BK135 BK145 HB hHeld ⊢
   refine pure_ (i := 0) (N := some 17) (v := ?_) (a' := ?_) #[true, false, false, false, false, false, false, false, false, false] rfl rfl (any_of HT_.out (by kernel_rfl)) (fun _ _ _ h => h) (Or.inl ⟨by rfl, ?_⟩) ?_ ?_
   rotate_left
   ·intro w'
    go_simp
    with_reducible rfl
   rotate_left
   ·simp only [Act.put, sit, scz, scs, i64_w, i32_w]
    rfl
   refine pure_ (i := 1) (N := some 18) (v := ?_) (a' := ?_) #[true, true, false, false, false, false, false, false, false, false] rfl rfl (any_of HT_.out (by kernel_rfl)) (fun _ _ _ h => h) (Or.inl ⟨by rfl, ?_⟩) ?_ ?_
   rotate_left
   ·intro w'
    go_simp
    with_reducible rfl
   rotate_left
   ·simp only [Act.put, sit, scz, scs, i64_w, i32_w]
    rfl
   refine pure_ (i := 2) (N := some 19) (v := ?_) (a' := ?_) #[true, true, true, false, false, false, false, false, false, false] rfl rfl (any_of HT_.out (by kernel_rfl)) (fun _ _ _ h => h) (Or.inl ⟨by rfl, ?_⟩) ?_ ?_
   rotate_left
   ·intro w'
    go_simp
    with_reducible rfl
   rotate_left
   ·simp only [Act.put, sit, scz, scs, i64_w, i32_w]
    rfl
   refine take_ (i := 3) (N := some 20) (v := ?_) (a' := ?_) #[true, true, true, true, false, false, false, false, false, false] rfl rfl (take_ofW HT_.out HW_.out (by kernel_rfl)) (fun _ _ _ h => h) (Or.inl ⟨by rfl, ?_⟩) hHeld ?_ ?_
   rotate_left
   ·rintro w' ⟨s0, s1, s2, s3, s4⟩
    go_simp
    with_reducible rfl
   rotate_left
   ·simp only [Act.put, sit, scz, scs, i64_w, i32_w]
    rfl
   refine pure_ (i := 4) (N := some 21) (v := ?_) (a' := ?_) #[true, true, true, true, true, false, false, false, false, false] rfl rfl (any_of HT_.out (by kernel_rfl)) (fun _ _ _ h => h) (Or.inl ⟨by rfl, ?_⟩) ?_ ?_
   rotate_left
   ·intro w'
    go_simp
    with_reducible rfl
   rotate_left
   ·simp only [Act.put, sit, scz, scs, i64_w, i32_w]
    rfl
   refine take_ (i := 6) (N := some 23) (v := ?_) (a' := ?_) #[true, true, true, true, true, false, true, false, false, false] rfl rfl (take_ofW HT_.out HW_.out (by kernel_rfl)) (fun _ _ _ h => h) (Or.inl ⟨by rfl, ?_⟩) hHeld ?_ ?_
   rotate_left
   ·rintro w' ⟨s0, s1, s2, s3, s4⟩
    go_simp
    with_reducible rfl
   rotate_left
   ·simp only [Act.put, sit, scz, scs, i64_w, i32_w]
    rfl
   refine one_ (i := 5) (N := some 22) #[true, true, true, true, true, true, true, false, false, false] rfl rfl (one_of HT_.out (by kernel_rfl)) (by decide) (fun K hK => ?_)
   refine goes_ Try.func87 (by kernel_rfl) rfl #[] (by rfl) rfl rfl (by (try simp only [mta, mco, mni]); first | done | rfl | (simp only [lnd, lnt]; rfl)) ?_
   with_reducible refine (impl_plainCode.calls  t146 t147 _ A19.out).mono ?_
   rintro e w50 ⟨rfl, hb⟩
   refine ⟨_, rfl, ?_⟩
   have n0_ := am (kbb (g := gb134) (o := .cells #[.int .i64 0, .int .i64 0, .string (⟨#[]⟩ : ByteArray)] 60 (0, 0)) (by (with_reducible repeat (first | apply kdn | apply kdr | apply kal)); exact BK134.out) hb)
   have n1_ := am (kbb (g := gb135) (o := .cells #[.string t143, .bool false] 119 (0, 0)) (by (with_reducible repeat (first | apply kdn | apply kdr | apply kal)); exact BK135.out) hb)
   have n2_ := am (kbb (g := gb145) (o := .cells #[.int .i64 t136, .int .i64 t139, .string t142] 60 (0, 0)) (by (with_reducible repeat (first | apply kdn | apply kdr | apply kal)); exact BK145.out) hb)
   have n3_ := am (below_step (by repeat (first | (with_reducible first | exact HB.out | apply bal | apply pdn | apply bd1 | refine bst ?_ GE134.out | refine bst ?_ GE135.out | refine bst ?_ GE145.out) | exact HB.out)) hb)
   clear BK134
   clear BK135
   clear BK145
   clear HB
   have BK134 := n0_
   have BK135 := n1_
   have BK145 := n2_
   have HB := n3_
   clear n0_ n1_ n2_ n3_
   refine hK.out _ _ ⟨(kce BK135.out 0).trans rfl, (kce BK135.out 1).trans rfl, (kce BK145.out 0).trans rfl, (kce BK145.out 1).trans rfl, (kce BK145.out 2).trans rfl⟩ (fun hHeld => ?_)
   clear hK K
   refine norm_ (a' := ?_) ?_ ?_
   rotate_left
   ·show Act.put _ (some 22) _ = _
    simp only [Act.put, sit, scz, scs, i64_w, i32_w]
    rfl
   refine one_ (i := 7) (N := some 24) #[true, true, true, true, true, true, true, true, false, false] rfl rfl (one_of HT_.out (by kernel_rfl)) (by decide) (fun K hK => ?_)
   refine goes_ Try.func86 (by kernel_rfl) rfl #[.agg #[.int .i64 t146, .int .i64 t147], .agg #[.int .i64 t136, .int .i64 t139, .string t142]] (by rfl) rfl rfl (by (try simp only [mta, mco, mni]); first | done | rfl | (simp only [lnd, lnt]; rfl)) ?_
   with_reducible refine (impl_OpOk.calls k t146 t147 t136 t139 t142 false _ A20.out).mono ?_
   rintro e w51 ⟨rfl, hb⟩
   refine ⟨_, rfl, ?_⟩
   have n0_ := am (kbb (g := gb134) (o := .cells #[.int .i64 0, .int .i64 0, .string (⟨#[]⟩ : ByteArray)] 60 (0, 0)) (by (with_reducible repeat (first | apply kdn | apply kdr | apply kal)); exact BK134.out) hb)
   have n1_ := am (kbb (g := gb135) (o := .cells #[.string t143, .bool false] 119 (0, 0)) (by (with_reducible repeat (first | apply kdn | apply kdr | apply kal)); exact BK135.out) hb)
   have n2_ := am (kbb (g := gb145) (o := .cells #[.int .i64 t136, .int .i64 t139, .string t142] 60 (0, 0)) (by (with_reducible repeat (first | apply kdn | apply kdr | apply kal)); exact BK145.out) hb)
   have n3_ := am (below_step (by repeat (first | (with_reducible first | exact HB.out | apply bal | apply pdn | apply bd1 | refine bst ?_ GE134.out | refine bst ?_ GE135.out | refine bst ?_ GE145.out) | exact HB.out)) hb)
   clear BK134
   clear BK135
   clear BK145
   clear HB
   have BK134 := n0_
   have BK135 := n1_
   have BK145 := n2_
   have HB := n3_
   clear n0_ n1_ n2_ n3_
   refine hK.out _ _ ⟨(kce BK135.out 0).trans rfl, (kce BK135.out 1).trans rfl, (kce BK145.out 0).trans rfl, (kce BK145.out 1).trans rfl, (kce BK145.out 2).trans rfl⟩ (fun hHeld => ?_)
   clear hK K
   refine norm_ (a' := ?_) ?_ ?_
   rotate_left
   ·show Act.put _ (some 24) _ = _
    simp only [Act.put, sit, scz, scs, i64_w, i32_w]
    rfl
   refine pure_ (i := 8) (N := some 25) (v := ?_) (a' := ?_) #[true, true, true, true, true, true, true, true, true, false] rfl rfl (any_of HT_.out (by kernel_rfl)) (fun _ _ _ h => h) (Or.inl ⟨by rfl, ?_⟩) ?_ ?_
   rotate_left
   ·intro w'
    go_simp
    with_reducible rfl
   rotate_left
   ·simp only [Act.put, sit, scz, scs, i64_w, i32_w]
    rfl
   refine pure_ (i := 9) (N := some 26) (v := ?_) (a' := ?_) #[true, true, true, true, true, true, true, true, true, true] rfl rfl (any_of HT_.out (by kernel_rfl)) (fun _ _ _ h => h) (Or.inl ⟨by rfl, ?_⟩) ?_ ?_
   rotate_left
   ·intro w'
    go_simp
    with_reducible rfl
   rotate_left
   ·simp only [Act.put, sit, scz, scs, i64_w, i32_w]
    rfl
   refine done_ (done_of HT_.out (by kernel_rfl)) ?_
   have hnb52 := NB134_135.out
   have hnc52 := NB135_134.out
   have hcz53_0 : w51.cell? ⟨gb134, 0, none⟩ = some (.int .i64 0) := (kce BK134.out 0).trans rfl
   have hcz53_1 : w51.cell? ⟨gb134, 1, none⟩ = some (.int .i64 0) := (kce BK134.out 1).trans rfl
   have hcz53_2 : w51.cell? ⟨gb134, 2, none⟩ = some (.string (⟨#[]⟩ : ByteArray)) := (kce BK134.out 2).trans rfl
   have hfz53_0 := kfr BK134.out 0
   have hfz53_1 := kfr BK134.out 1
   have hfz53_2 := kfr BK134.out 2
   try go_wp2
   refine bodyPost_ret (results_ctt rfl _ _ gb134 60 #[.int .i64 0, .int .i64 0, .string (⟨#[]⟩ : ByteArray)] (0, 0) _ rfl (by (with_reducible repeat (first | apply kdn | apply kdr | apply kal)); refine blk_put (cs := #[.int .i64 0, .int .i64 0, .string (⟨#[]⟩ : ByteArray)]) ?_ 2 _ rfl; (with_reducible repeat (first | apply kdn | apply kdr | apply kal)); refine blk_put (cs := #[.int .i64 0, .int .i64 0, .string (⟨#[]⟩ : ByteArray)]) ?_ 1 _ rfl; (with_reducible repeat (first | apply kdn | apply kdr | apply kal)); refine blk_put (cs := #[.int .i64 0, .int .i64 0, .string (⟨#[]⟩ : ByteArray)]) ?_ 0 _ rfl; (with_reducible repeat (first | apply kdn | apply kdr | apply kal)); exact BK134.out) Try.underlying60 rfl (by kernel_rfl)) rfl ?_
   exact ⟨by first | rfl | (simp [errW_none, errW_some] <;> rfl) | (simp [*, errW_none, errW_some] <;> rfl), by repeat (first | (with_reducible first | exact HB.out | apply bal | apply pdn | apply bd1 | refine bst ?_ GE134.out | refine bst ?_ GE135.out | refine bst ?_ GE145.out) | exact HB.out)⟩

/-! ### spec_l00In: function 57 -/
def spec_l00In.f (a0 : Int) (a1 : Int) (a2 : Int) : Option (Bool) := if a0 ≥ a1 then (some (decide (a0 ≤ a2))) else (some false)
set_option maxHeartbeats 8000000 in
set_option maxRecDepth 100000 in
theorem spec_l00In.calls (a0 : Int) (a1 : Int) (a2 : Int) (r : Bool) (w : World) (h : spec_l00In.f a0 a1 a2 = some r) :
  Calls Try.prog 57 #[.int .i64 a0, .int .i64 a1, .int .i64 a2] w fun e w' => e = .returned (.bool r) ∧ Drawn0 w w' := by
 have H : (if a0 ≥ a1 then (some (decide (a0 ≤ a2))) else (some false)) = some r := h
 clear h
 by_cases c4 : a0 ≥ a1
 ·rw [if_pos c4] at H
  have c4b0 : decide (a1 ≤ a0) = true := decide_eq_true c4
  clear c4
  obtain rfl := Option.some.inj H
  go_enter Try.func57, Try.ntmps57
  go_wp2
  go_ret
  exact ⟨by first | rfl | (simp; done) | (simp [*]; done), by repeat (first | exact Drawn0.refl _ | apply Drawn0.step)⟩
 ·rw [if_neg c4] at H
  have c4b0 : decide (a1 ≤ a0) = false := decide_eq_false c4
  clear c4
  obtain rfl := Option.some.inj H
  go_enter Try.func57, Try.ntmps57
  go_wp2
  go_ret
  exact ⟨by first | rfl | (simp; done) | (simp [*]; done), by repeat (first | exact Drawn0.refl _ | apply Drawn0.step)⟩

/-! ### spec_l04Code: function 126 -/
def spec_l04Code.f (a0_0 : Int) (a0_1 : Int) : Option (Bool) := (spec_l00In.f a0_0 1 4).bind fun t150 => (if t150 = true then ((spec_l00In.f a0_1 0 3).bind fun t151 => (some t151)) else (some false))
set_option maxHeartbeats 8000000 in
set_option maxRecDepth 100000 in
theorem spec_l04Code.calls (a0_0 : Int) (a0_1 : Int) (r : Bool) (w : World) (h : spec_l04Code.f a0_0 a0_1 = some r) :
  Calls Try.prog 126 #[.agg #[.int .i64 a0_0, .int .i64 a0_1]] w fun e w' => e = .returned (.bool r) ∧ Below w.heap.size w w' := by
 have hu84 := Try.underlying84
 have HB := am (Below.refl w.heap.size w)
 have H : ((spec_l00In.f a0_0 1 4).bind fun t150 => (if t150 = true then ((spec_l00In.f a0_1 0 3).bind fun t151 => (some t151)) else (some false))) = some r := h
 clear h
 replace H := Option.bind_eq_some_iff.mp H
 obtain ⟨t150, A20, H⟩ := H
 replace H : (if t150 = true then ((spec_l00In.f a0_1 0 3).bind fun t151 => (some t151)) else (some false)) = some r := H
 have A2 := am A20
 clear A20
 by_cases c3 : t150 = true
 ·subst c3
  have H1 : ((spec_l00In.f a0_1 0 3).bind fun t151 => (some t151)) = some r := by rw [if_pos rfl] at H; exact H
  clear H
  have H := H1
  clear H1
  replace H := Option.bind_eq_some_iff.mp H
  obtain ⟨t151, A40, H⟩ := H
  replace H : (some t151) = some r := H
  have A4 := am A40
  clear A40
  obtain rfl := Option.some.inj H
  go_enter Try.func126, Try.ntmps126
  go_wp2_with (first | ((with_reducible refine gate_dst (N := 1) rfl ?_); refine box_event ?hg (N := 1) ?hd (cs := #[.int .i64 a0_0, .int .i64 a0_1]) (t := 84) ?hr ?_; (case hd => rfl); (case hg => rfl); (case hr => first | (go_simp; done) | (go_simp; rfl)); intro gb149 hg w5 hbox hb; have n0_ := am (below_step (by repeat (first | (with_reducible first | exact HB.out | apply bal | apply pdn | apply bd1) | exact HB.out)) hb); have n1_ := am (hbox); have n2_ := am ((by rw [hg]; exact (below_size (by repeat (first | (with_reducible first | exact HB.out | apply bal | apply pdn | apply bd1) | exact HB.out))) : w.heap.size ≤ gb149)); have n3_ := am ((by rw [hg]; exact (below_size (by repeat (first | (with_reducible first | exact HB.out | apply bal | apply pdn | apply bd1) | exact HB.out))) : w.heap.size ≤ gb149)); clear HB; have HB := n0_; have BK149 := n1_; have GW149 := n2_; have GE149 := n3_; clear n0_ n1_ n2_ n3_; clear hb hbox hg; have hcz6_0 : w5.cell? ⟨gb149, 0, none⟩ = some (.int .i64 a0_0) := (kce BK149.out 0).trans rfl; have hcz6_1 : w5.cell? ⟨gb149, 1, none⟩ = some (.int .i64 a0_1) := (kce BK149.out 1).trans rfl; have hfz6_0 := kfr BK149.out 0; have hfz6_1 := kfr BK149.out 1) | ((with_reducible refine gate_callee (f := 57) rfl ?_); refine goesL_ (some 5) rfl rfl Try.func57 (by kernel_rfl) rfl #[.int .i64 a0_0, .int .i64 1, .int .i64 4] rfl (by (try simp only [mta, mco, mni]); first | done | rfl | (simp only [lnd, lnt]; rfl)) ?_; (with_reducible refine (spec_l00In.calls a0_0 1 4 true _ A2.out).mono ?_); rintro e w' ⟨rfl, ⟨nd, rfl⟩⟩; refine ⟨_, rfl, ?_⟩) | (go_at_call 57; (with_reducible refine (spec_l00In.calls a0_1 0 3 t151 _ A4.out).mono ?_); rintro e w' ⟨rfl, ⟨nd, rfl⟩⟩))
  go_ret
  exact ⟨by first | rfl | (simp [errW_none, errW_some] <;> rfl) | (simp [*, errW_none, errW_some] <;> rfl), by repeat (first | (with_reducible first | exact HB.out | apply bal | apply pdn | apply bd1 | refine bst ?_ GE149.out) | exact HB.out)⟩
 ·replace c3 := Bool.eq_false_iff.mpr c3
  subst c3
  have H1 : (some false) = some r := by rw [if_neg (show ¬ (false = true) by decide)] at H; exact H
  clear H
  have H := H1
  clear H1
  obtain rfl := Option.some.inj H
  go_enter Try.func126, Try.ntmps126
  go_wp2_with (first | ((with_reducible refine gate_dst (N := 1) rfl ?_); refine box_event ?hg (N := 1) ?hd (cs := #[.int .i64 a0_0, .int .i64 a0_1]) (t := 84) ?hr ?_; (case hd => rfl); (case hg => rfl); (case hr => first | (go_simp; done) | (go_simp; rfl)); intro gb149 hg w7 hbox hb; have n0_ := am (below_step (by repeat (first | (with_reducible first | exact HB.out | apply bal | apply pdn | apply bd1) | exact HB.out)) hb); have n1_ := am (hbox); have n2_ := am ((by rw [hg]; exact (below_size (by repeat (first | (with_reducible first | exact HB.out | apply bal | apply pdn | apply bd1) | exact HB.out))) : w.heap.size ≤ gb149)); have n3_ := am ((by rw [hg]; exact (below_size (by repeat (first | (with_reducible first | exact HB.out | apply bal | apply pdn | apply bd1) | exact HB.out))) : w.heap.size ≤ gb149)); clear HB; have HB := n0_; have BK149 := n1_; have GW149 := n2_; have GE149 := n3_; clear n0_ n1_ n2_ n3_; clear hb hbox hg; have hcz8_0 : w7.cell? ⟨gb149, 0, none⟩ = some (.int .i64 a0_0) := (kce BK149.out 0).trans rfl; have hcz8_1 : w7.cell? ⟨gb149, 1, none⟩ = some (.int .i64 a0_1) := (kce BK149.out 1).trans rfl; have hfz8_0 := kfr BK149.out 0; have hfz8_1 := kfr BK149.out 1) | ((with_reducible refine gate_callee (f := 57) rfl ?_); refine goesL_ (some 5) rfl rfl Try.func57 (by kernel_rfl) rfl #[.int .i64 a0_0, .int .i64 1, .int .i64 4] rfl (by (try simp only [mta, mco, mni]); first | done | rfl | (simp only [lnd, lnt]; rfl)) ?_; (with_reducible refine (spec_l00In.calls a0_0 1 4 false _ A2.out).mono ?_); rintro e w' ⟨rfl, ⟨nd, rfl⟩⟩; refine ⟨_, rfl, ?_⟩))
  go_ret
  exact ⟨by first | rfl | (simp [errW_none, errW_some] <;> rfl) | (simp [*, errW_none, errW_some] <;> rfl), by repeat (first | (with_reducible first | exact HB.out | apply bal | apply pdn | apply bd1 | refine bst ?_ GE149.out) | exact HB.out)⟩

/-! ### spec_CodeOk: function 101 -/
def spec_CodeOk.f (a0_0 : Int) (a0_1 : Int) : Option (Bool) := (spec_l04Code.f a0_0 a0_1).bind fun t153 => (some t153)
set_option maxHeartbeats 8000000 in
set_option maxRecDepth 100000 in
theorem spec_CodeOk.calls (a0_0 : Int) (a0_1 : Int) (r : Bool) (w : World) (h : spec_CodeOk.f a0_0 a0_1 = some r) :
  Calls Try.prog 101 #[.agg #[.int .i64 a0_0, .int .i64 a0_1]] w fun e w' => e = .returned (.bool r) ∧ Below w.heap.size w w' := by
 have hu84 := Try.underlying84
 have HB := am (Below.refl w.heap.size w)
 have H : ((spec_l04Code.f a0_0 a0_1).bind fun t153 => (some t153)) = some r := h
 clear h
 replace H := Option.bind_eq_some_iff.mp H
 obtain ⟨t153, A20, H⟩ := H
 replace H : (some t153) = some r := H
 have A2 := am A20
 clear A20
 obtain rfl := Option.some.inj H
 go_enter Try.func101, Try.ntmps101
 go_wp2_with (first | ((with_reducible refine gate_dst (N := 1) rfl ?_); refine box_event ?hg (N := 1) ?hd (cs := #[.int .i64 a0_0, .int .i64 a0_1]) (t := 84) ?hr ?_; (case hd => rfl); (case hg => rfl); (case hr => first | (go_simp; done) | (go_simp; rfl)); intro gb152 hg w3 hbox hb; have n0_ := am (below_step (by repeat (first | (with_reducible first | exact HB.out | apply bal | apply pdn | apply bd1) | exact HB.out)) hb); have n1_ := am (hbox); have n2_ := am ((by rw [hg]; exact (below_size (by repeat (first | (with_reducible first | exact HB.out | apply bal | apply pdn | apply bd1) | exact HB.out))) : w.heap.size ≤ gb152)); have n3_ := am ((by rw [hg]; exact (below_size (by repeat (first | (with_reducible first | exact HB.out | apply bal | apply pdn | apply bd1) | exact HB.out))) : w.heap.size ≤ gb152)); clear HB; have HB := n0_; have BK152 := n1_; have GW152 := n2_; have GE152 := n3_; clear n0_ n1_ n2_ n3_; clear hb hbox hg; have hcz4_0 : w3.cell? ⟨gb152, 0, none⟩ = some (.int .i64 a0_0) := (kce BK152.out 0).trans rfl; have hcz4_1 : w3.cell? ⟨gb152, 1, none⟩ = some (.int .i64 a0_1) := (kce BK152.out 1).trans rfl; have hfz4_0 := kfr BK152.out 0; have hfz4_1 := kfr BK152.out 1) | ((with_reducible refine gate_callee (f := 126) rfl ?_); refine goesL_ (some 4) rfl rfl Try.func126 (by kernel_rfl) rfl #[.agg #[.int .i64 a0_0, .int .i64 a0_1]] rfl (by (try simp only [mta, mco, mni]); first | done | rfl | (simp only [lnd, lnt]; rfl)) ?_; (with_reducible refine (spec_l04Code.calls a0_0 a0_1 t153 _ A2.out).mono ?_); rintro e w5 ⟨rfl, hb⟩; refine ⟨_, rfl, ?_⟩; have n0_ := am (kbb (g := gb152) (o := .cells #[.int .i64 a0_0, .int .i64 a0_1] 84 (0, 0)) (by (with_reducible repeat (first | apply kdn | apply kdr | apply kal)); exact BK152.out) hb); have n1_ := am (below_step (by repeat (first | (with_reducible first | exact HB.out | apply bal | apply pdn | apply bd1 | refine bst ?_ GE152.out) | exact HB.out)) hb); clear BK152; clear HB; have BK152 := n0_; have HB := n1_; clear n0_ n1_; (try clear hb); (try clear hb2); (try clear hk); (try clear hi)))
 go_ret
 exact ⟨by first | rfl | (simp [errW_none, errW_some] <;> rfl) | (simp [*, errW_none, errW_some] <;> rfl), by repeat (first | (with_reducible first | exact HB.out | apply bal | apply pdn | apply bd1 | refine bst ?_ GE152.out) | exact HB.out)⟩

end Go.Proofs.Ythphhklbliambaa.MFnOps
