-- Written by a program of this session (wip/tools/myprint.py) over the kit's print: it is not the kit's print.
import Derived.Test.YthphhklbliambaaExtra
import Derived.Test.YthphhklbliambaaMFnOpsx0
import Derived.Test.YthphhklbliambaaMFnOpsx2
namespace Go.Proofs.Ythphhklbliambaa.MFnOps
open Go.RowKit Go.Proofs.YthphhklbliambaaW.PrintWords Go.Proofs.YthphhklbliambaaW.PrintLast Go.Proofs.YthphhklbliambaaW.PrintMore
open List renaming setIfInBounds_toArray → sit, set_cons_zero → scz, set_cons_succ → scs, map_toArray → mta, map_cons → mco, map_nil → mni, length_drop → lnd, length_take → lnt
attribute [local go_sem] max2_int min2_int max_two min_two max_three min_three max_four min_four   -- for this text's walks alone
set_option linter.unusedVariables false
set_option linter.unusedSimpArgs false

/-! ### impl_PutOp: function 39 -/
def impl_PutOp.f (k : Nat) (a0_0 : Int) (a0_1 : Int) (a0_2 : ByteArray) : Option (ByteArray) := (impl_plainCode.f).bind fun bt119 => ((impl_OpOk.f k bt119.1 bt119.2 a0_0 a0_1 a0_2).bind fun t121 => (if t121 = true then ((impl_PutVar.f k a0_0).bind fun t122 => ((impl_PutVar.f k a0_1).bind fun t123 => (if t122.size + t123.size ≤ 9223372036854775807 then ((impl_PutText.f k a0_2).bind fun t124 => (if (t122 ++ t123).size + t124.size ≤ 9223372036854775807 then (some ((t122 ++ t123) ++ t124)) else (none))) else (none)))) else (some (⟨#[]⟩ : ByteArray))))
theorem impl_PutOp.mono : ∀ a0 a1 a2 k, LeO (impl_PutOp.f k a0 a1 a2) (impl_PutOp.f (k + 1) a0 a1 a2) := by
 intro a0 a1 a2 k
 unfold impl_PutOp.f
 repeat' first
   | (with_reducible exact impl_OpOk.mono _ _ _ _ _ _)
   | (with_reducible exact impl_PutText.mono _ _)
   | (with_reducible exact impl_PutVar.mono _ _)
   | (with_reducible exact LeO.refl _)
   | (with_reducible exact LeO.none _)
   | (with_reducible refine LeO.ite ?_ ?_)
   | (with_reducible refine LeO.bind ?_ (fun _ => ?_))
   | exact impl_OpOk.mono _ _ _ _ _ _
   | exact impl_PutText.mono _ _
   | exact impl_PutVar.mono _ _
   | exact LeO.none _
   | refine LeO.ite ?_ ?_
   | refine LeO.bind ?_ (fun _ => ?_)
def impl_PutOp.T3 : Bool × List (List Nat × List Nat) := (true, [([], []), ([0], [0]), ([1], [1]), ([], []), ([3], [3]), ([4, 2], [4]), ([2, 5], [2, 5]), ([], []), ([7], [7]), ([8, 5], [8]), ([6, 9], [6, 9]), ([10, 9, 0, 1, 2, 3, 4, 5, 6, 7, 8, 9, 10], [10])])
def impl_PutOp.B3 : List Nat := [0, 1, 3, 0, 8, 31, 63, 0, 128, 447, 1023, 2047]
theorem impl_PutOp.tab3 : rtab .any (opsOf Try.f39 3) = impl_PutOp.T3 := by kernel_rfl
theorem impl_PutOp.bits3 : waitsOk impl_PutOp.T3.2 impl_PutOp.B3 = true := by kernel_rfl
set_option maxHeartbeats 8000000 in
set_option maxRecDepth 100000 in
theorem impl_PutOp.calls (k : Nat) (a0_0 : Int) (a0_1 : Int) (a0_2 : ByteArray) (r : ByteArray) (w : World) (h : impl_PutOp.f k a0_0 a0_1 a0_2 = some r) :
  Calls Try.prog 39 #[.agg #[.int .i64 a0_0, .int .i64 a0_1, .string a0_2]] w fun e w' => e = .returned (.string r) ∧ Below w.heap.size w w' := by
 have hu60 := Try.underlying60
 have HB := am (Below.refl w.heap.size w)
 have H : ((impl_plainCode.f).bind fun bt119 => ((impl_OpOk.f k bt119.1 bt119.2 a0_0 a0_1 a0_2).bind fun t121 => (if t121 = true then ((impl_PutVar.f k a0_0).bind fun t122 => ((impl_PutVar.f k a0_1).bind fun t123 => (if t122.size + t123.size ≤ 9223372036854775807 then ((impl_PutText.f k a0_2).bind fun t124 => (if (t122 ++ t123).size + t124.size ≤ 9223372036854775807 then (some ((t122 ++ t123) ++ t124)) else (none))) else (none)))) else (some (⟨#[]⟩ : ByteArray))))) = some r := h
 clear h
 replace H := Option.bind_eq_some_iff.mp H
 obtain ⟨⟨t119, t120⟩, A20, H⟩ := H
 replace H : ((impl_OpOk.f k t119 t120 a0_0 a0_1 a0_2).bind fun t121 => (if t121 = true then ((impl_PutVar.f k a0_0).bind fun t122 => ((impl_PutVar.f k a0_1).bind fun t123 => (if t122.size + t123.size ≤ 9223372036854775807 then ((impl_PutText.f k a0_2).bind fun t124 => (if (t122 ++ t123).size + t124.size ≤ 9223372036854775807 then (some ((t122 ++ t123) ++ t124)) else (none))) else (none)))) else (some (⟨#[]⟩ : ByteArray)))) = some r := H
 have A2 := am A20
 clear A20
 replace H := Option.bind_eq_some_iff.mp H
 obtain ⟨t121, A30, H⟩ := H
 replace H : (if t121 = true then ((impl_PutVar.f k a0_0).bind fun t122 => ((impl_PutVar.f k a0_1).bind fun t123 => (if t122.size + t123.size ≤ 9223372036854775807 then ((impl_PutText.f k a0_2).bind fun t124 => (if (t122 ++ t123).size + t124.size ≤ 9223372036854775807 then (some ((t122 ++ t123) ++ t124)) else (none))) else (none)))) else (some (⟨#[]⟩ : ByteArray))) = some r := H
 have A3 := am A30
 clear A30
 by_cases c4 : t121 = true
 ·subst c4
  have H1 : ((impl_PutVar.f k a0_0).bind fun t122 => ((impl_PutVar.f k a0_1).bind fun t123 => (if t122.size + t123.size ≤ 9223372036854775807 then ((impl_PutText.f k a0_2).bind fun t124 => (if (t122 ++ t123).size + t124.size ≤ 9223372036854775807 then (some ((t122 ++ t123) ++ t124)) else (none))) else (none)))) = some r := by rw [if_pos rfl] at H; exact H
  clear H
  have H := H1
  clear H1
  replace H := Option.bind_eq_some_iff.mp H
  obtain ⟨t122, A50, H⟩ := H
  replace H : ((impl_PutVar.f k a0_1).bind fun t123 => (if t122.size + t123.size ≤ 9223372036854775807 then ((impl_PutText.f k a0_2).bind fun t124 => (if (t122 ++ t123).size + t124.size ≤ 9223372036854775807 then (some ((t122 ++ t123) ++ t124)) else (none))) else (none))) = some r := H
  have A5 := am A50
  clear A50
  replace H := Option.bind_eq_some_iff.mp H
  obtain ⟨t123, A60, H⟩ := H
  replace H : (if t122.size + t123.size ≤ 9223372036854775807 then ((impl_PutText.f k a0_2).bind fun t124 => (if (t122 ++ t123).size + t124.size ≤ 9223372036854775807 then (some ((t122 ++ t123) ++ t124)) else (none))) else (none)) = some r := H
  have A6 := am A60
  clear A60
  by_cases c7 : t122.size + t123.size ≤ 9223372036854775807
  ·rw [if_pos c7] at H
   have c7b0 := eq_true c7
   have c7b1 : decide (t122.size + t123.size ≤ 9223372036854775807) = true := decide_eq_true c7
   try have c7b2 : (9223372036854775807 < t122.size + t123.size) = False := eq_false (Nat.not_lt.2 c7)
   replace H := Option.bind_eq_some_iff.mp H
   obtain ⟨t124, A80, H⟩ := H
   replace H : (if (t122 ++ t123).size + t124.size ≤ 9223372036854775807 then (some ((t122 ++ t123) ++ t124)) else (none)) = some r := H
   have A8 := am A80
   clear A80
   by_cases c9 : (t122 ++ t123).size + t124.size ≤ 9223372036854775807
   ·rw [if_pos c9] at H
    have c9y := eq_false (Nat.not_lt.mpr (show (t122.size + t123.size) + t124.size ≤ 9223372036854775807 from (by have z_ := c9; simp only [ByteArray.size_append] at z_; exact z_)))
    have c9b0 := eq_true c9
    have c9b1 : decide ((t122 ++ t123).size + t124.size ≤ 9223372036854775807) = true := decide_eq_true c9
    try have c9b2 : (9223372036854775807 < (t122 ++ t123).size + t124.size) = False := eq_false (Nat.not_lt.2 c9)
    obtain rfl := Option.some.inj H
    go_enter Try.func39, Try.ntmps39
    try go_wp2_with (first | ((with_reducible refine gate_dst (N := 1) rfl ?_); refine box_event ?hg (N := 1) ?hd (cs := #[.int .i64 a0_0, .int .i64 a0_1, .string a0_2]) (t := 60) ?hr ?_; (case hd => rfl); (case hg => rfl); (case hr => first | (go_simp; done) | (go_simp; rfl)); intro gb118 hg w10 hbox hb; have n0_ := am (below_step (by repeat (first | (with_reducible first | exact HB.out | apply bal | apply pdn | apply bd1) | exact HB.out)) hb); have n1_ := am (hbox); have n2_ := am ((by rw [hg]; exact (below_size (by repeat (first | (with_reducible first | exact HB.out | apply bal | apply pdn | apply bd1) | exact HB.out))) : w.heap.size ≤ gb118)); have n3_ := am ((by rw [hg]; exact (below_size (by repeat (first | (with_reducible first | exact HB.out | apply bal | apply pdn | apply bd1) | exact HB.out))) : w.heap.size ≤ gb118)); clear HB; have HB := n0_; have BK118 := n1_; have GW118 := n2_; have GE118 := n3_; clear n0_ n1_ n2_ n3_; clear hb hbox hg))
    have n0_ := am (kdr BK118.out)
    have n1_ := am (bd1 HB.out)
    clear BK118
    clear HB
    have BK118 := n0_
    have HB := n1_
    clear n0_ n1_
    refine start_ (n := 4) (S := fun w' => w'.cell? ⟨gb118, 0, none⟩ = some (.int .i64 a0_0) ∧ w'.cell? ⟨gb118, 1, none⟩ = some (.int .i64 a0_1) ∧ w'.cell? ⟨gb118, 2, none⟩ = some (.string a0_2)) (ds := []) #[false, false, false, false] (by kernel_rfl) rfl rfl ⟨(kce BK118.out 0).trans rfl, (kce BK118.out 1).trans rfl, (kce BK118.out 2).trans rfl⟩ (fun hHeld => ?_)
    generalize w10.drew = w11 at BK118 HB hHeld ⊢
    refine take_ (i := 1) (N := some 4) (v := ?_) (a' := ?_) #[false, true, false, false] rfl rfl (by kernel_rfl) (fun _ _ _ h => h) (Or.inl ⟨by rfl, ?_⟩) hHeld ?_ ?_
    rotate_left
    ·rintro w' ⟨s0, s1, s2⟩
     go_simp
     with_reducible rfl
    rotate_left
    ·simp only [Act.put, sit, scz, scs, i64_w, i32_w]
     rfl
    refine one_ (i := 0) (N := some 3) #[true, true, false, false] rfl rfl (by kernel_rfl) (by decide) (fun K hK => ?_)
    refine goes_ Try.func87 (by kernel_rfl) rfl #[] (by rfl) rfl rfl (by (try simp only [mta, mco, mni]); first | done | rfl | (simp only [lnd, lnt]; rfl)) ?_
    with_reducible refine (impl_plainCode.calls  t119 t120 _ A2.out).mono ?_
    rintro e w12 ⟨rfl, hb⟩
    refine ⟨_, rfl, ?_⟩
    have n0_ := am (kbb (g := gb118) (o := .cells #[.int .i64 a0_0, .int .i64 a0_1, .string a0_2] 60 (0, 0)) (by (with_reducible repeat (first | apply kdn | apply kdr | apply kal)); exact BK118.out) hb)
    have n1_ := am (below_step (by repeat (first | (with_reducible first | exact HB.out | apply bal | apply pdn | apply bd1 | refine bst ?_ GE118.out) | exact HB.out)) hb)
    clear BK118
    clear HB
    have BK118 := n0_
    have HB := n1_
    clear n0_ n1_
    refine hK.out _ _ ⟨(kce BK118.out 0).trans rfl, (kce BK118.out 1).trans rfl, (kce BK118.out 2).trans rfl⟩ (fun hHeld => ?_)
    clear hK K
    refine norm_ (a' := ?_) ?_ ?_
    rotate_left
    ·show Act.put _ (some 3) _ = _
     simp only [Act.put, sit, scz, scs, i64_w, i32_w]
     rfl
    refine one_ (i := 2) (N := some 5) #[true, true, true, false] rfl rfl (by kernel_rfl) (by decide) (fun K hK => ?_)
    refine goes_ Try.func86 (by kernel_rfl) rfl #[.agg #[.int .i64 t119, .int .i64 t120], .agg #[.int .i64 a0_0, .int .i64 a0_1, .string a0_2]] (by rfl) rfl rfl (by (try simp only [mta, mco, mni]); first | done | rfl | (simp only [lnd, lnt]; rfl)) ?_
    with_reducible refine (impl_OpOk.calls k t119 t120 a0_0 a0_1 a0_2 true _ A3.out).mono ?_
    rintro e w13 ⟨rfl, hb⟩
    refine ⟨_, rfl, ?_⟩
    have n0_ := am (kbb (g := gb118) (o := .cells #[.int .i64 a0_0, .int .i64 a0_1, .string a0_2] 60 (0, 0)) (by (with_reducible repeat (first | apply kdn | apply kdr | apply kal)); exact BK118.out) hb)
    have n1_ := am (below_step (by repeat (first | (with_reducible first | exact HB.out | apply bal | apply pdn | apply bd1 | refine bst ?_ GE118.out) | exact HB.out)) hb)
    clear BK118
    clear HB
    have BK118 := n0_
    have HB := n1_
    clear n0_ n1_
    refine hK.out _ _ ⟨(kce BK118.out 0).trans rfl, (kce BK118.out 1).trans rfl, (kce BK118.out 2).trans rfl⟩ (fun hHeld => ?_)
    clear hK K
    refine norm_ (a' := ?_) ?_ ?_
    rotate_left
    ·show Act.put _ (some 5) _ = _
     simp only [Act.put, sit, scz, scs, i64_w, i32_w]
     rfl
    refine pure_ (i := 3) (N := some 6) (v := ?_) (a' := ?_) #[true, true, true, true] rfl rfl (by kernel_rfl) (fun _ _ _ h => h) (Or.inl ⟨by rfl, ?_⟩) ?_ ?_
    rotate_left
    ·intro w'
     go_simp
     with_reducible rfl
    rotate_left
    ·simp only [Act.put, sit, scz, scs, i64_w, i32_w]
     rfl
    refine done_ (by kernel_rfl) ?_
    try go_wp2
    have n0_ := am (kdr BK118.out)
    have n1_ := am (bd1 HB.out)
    clear BK118
    clear HB
    have BK118 := n0_
    have HB := n1_
    clear n0_ n1_
    refine start_ (n := 12) (S := fun w' => w'.cell? ⟨gb118, 0, none⟩ = some (.int .i64 a0_0) ∧ w'.cell? ⟨gb118, 1, none⟩ = some (.int .i64 a0_1) ∧ w'.cell? ⟨gb118, 2, none⟩ = some (.string a0_2)) (ds := []) #[false, false, false, false, false, false, false, false, false, false, false, false] (by kernel_rfl) rfl rfl ⟨(kce BK118.out 0).trans rfl, (kce BK118.out 1).trans rfl, (kce BK118.out 2).trans rfl⟩ (fun hHeld => ?_); refine with_tabW impl_PutOp.tab3 impl_PutOp.bits3 (fun HT_ HW_ => ?_)
    generalize w13.drew = w14 at BK118 HB hHeld ⊢
    refine pure_ (i := 0) (N := some 7) (v := ?_) (a' := ?_) #[true, false, false, false, false, false, false, false, false, false, false, false] rfl rfl (any_of HT_.out (by kernel_rfl)) (fun _ _ _ h => h) (Or.inl ⟨by rfl, ?_⟩) ?_ ?_
    rotate_left
    ·intro w'
     go_simp
     with_reducible rfl
    rotate_left
    ·simp only [Act.put, sit, scz, scs, i64_w, i32_w]
     rfl
    refine pure_ (i := 3) (N := some 10) (v := ?_) (a' := ?_) #[true, false, false, true, false, false, false, false, false, false, false, false] rfl rfl (any_of HT_.out (by kernel_rfl)) (fun _ _ _ h => h) (Or.inl ⟨by rfl, ?_⟩) ?_ ?_
    rotate_left
    ·intro w'
     go_simp
     with_reducible rfl
    rotate_left
    ·simp only [Act.put, sit, scz, scs, i64_w, i32_w]
     rfl
    refine pure_ (i := 7) (N := some 14) (v := ?_) (a' := ?_) #[true, false, false, true, false, false, false, true, false, false, false, false] rfl rfl (any_of HT_.out (by kernel_rfl)) (fun _ _ _ h => h) (Or.inl ⟨by rfl, ?_⟩) ?_ ?_
    rotate_left
    ·intro w'
     go_simp
     with_reducible rfl
    rotate_left
    ·simp only [Act.put, sit, scz, scs, i64_w, i32_w]
     rfl
    refine take_ (i := 1) (N := some 8) (v := ?_) (a' := ?_) #[true, true, false, true, false, false, false, true, false, false, false, false] rfl rfl (take_ofW HT_.out HW_.out (by kernel_rfl)) (fun _ _ _ h => h) (Or.inl ⟨by rfl, ?_⟩) hHeld ?_ ?_
    rotate_left
    ·rintro w' ⟨s0, s1, s2⟩
     go_simp
     with_reducible rfl
    rotate_left
    ·simp only [Act.put, sit, scz, scs, i64_w, i32_w]
     rfl
    refine take_ (i := 4) (N := some 11) (v := ?_) (a' := ?_) #[true, true, false, true, true, false, false, true, false, false, false, false] rfl rfl (take_ofW HT_.out HW_.out (by kernel_rfl)) (fun _ _ _ h => h) (Or.inl ⟨by rfl, ?_⟩) hHeld ?_ ?_
    rotate_left
    ·rintro w' ⟨s0, s1, s2⟩
     go_simp
     with_reducible rfl
    rotate_left
    ·simp only [Act.put, sit, scz, scs, i64_w, i32_w]
     rfl
    refine take_ (i := 8) (N := some 15) (v := ?_) (a' := ?_) #[true, true, false, true, true, false, false, true, true, false, false, false] rfl rfl (take_ofW HT_.out HW_.out (by kernel_rfl)) (fun _ _ _ h => h) (Or.inl ⟨by rfl, ?_⟩) hHeld ?_ ?_
    rotate_left
    ·rintro w' ⟨s0, s1, s2⟩
     go_simp
     with_reducible rfl
    rotate_left
    ·simp only [Act.put, sit, scz, scs, i64_w, i32_w]
     rfl
    refine one_ (i := 2) (N := some 9) #[true, true, true, true, true, false, false, true, true, false, false, false] rfl rfl (one_of HT_.out (by kernel_rfl)) (by decide) (fun K hK => ?_)
    refine goes_ Try.func88 (by kernel_rfl) rfl #[.int .i64 a0_0] (by rfl) rfl rfl (by (try simp only [mta, mco, mni]); first | done | rfl | (simp only [lnd, lnt]; rfl)) ?_
    with_reducible refine (impl_PutVar.calls k a0_0 t122 _ A5.out).mono ?_
    rintro e w15 ⟨rfl, hb⟩
    refine ⟨_, rfl, ?_⟩
    have n0_ := am (kbb (g := gb118) (o := .cells #[.int .i64 a0_0, .int .i64 a0_1, .string a0_2] 60 (0, 0)) (by (with_reducible repeat (first | apply kdn | apply kdr | apply kal)); exact BK118.out) hb)
    have n1_ := am (below_step (by repeat (first | (with_reducible first | exact HB.out | apply bal | apply pdn | apply bd1 | refine bst ?_ GE118.out) | exact HB.out)) hb)
    clear BK118
    clear HB
    have BK118 := n0_
    have HB := n1_
    clear n0_ n1_
    refine hK.out _ _ ⟨(kce BK118.out 0).trans rfl, (kce BK118.out 1).trans rfl, (kce BK118.out 2).trans rfl⟩ (fun hHeld => ?_)
    clear hK K
    refine norm_ (a' := ?_) ?_ ?_
    rotate_left
    ·show Act.put _ (some 9) _ = _
     simp only [Act.put, sit, scz, scs, i64_w, i32_w]
     rfl
    refine one_ (i := 5) (N := some 12) #[true, true, true, true, true, true, false, true, true, false, false, false] rfl rfl (one_of HT_.out (by kernel_rfl)) (by decide) (fun K hK => ?_)
    refine goes_ Try.func88 (by kernel_rfl) rfl #[.int .i64 a0_1] (by rfl) rfl rfl (by (try simp only [mta, mco, mni]); first | done | rfl | (simp only [lnd, lnt]; rfl)) ?_
    with_reducible refine (impl_PutVar.calls k a0_1 t123 _ A6.out).mono ?_
    rintro e w16 ⟨rfl, hb⟩
    refine ⟨_, rfl, ?_⟩
    have n0_ := am (kbb (g := gb118) (o := .cells #[.int .i64 a0_0, .int .i64 a0_1, .string a0_2] 60 (0, 0)) (by (with_reducible repeat (first | apply kdn | apply kdr | apply kal)); exact BK118.out) hb)
    have n1_ := am (below_step (by repeat (first | (with_reducible first | exact HB.out | apply bal | apply pdn | apply bd1 | refine bst ?_ GE118.out) | exact HB.out)) hb)
    clear BK118
    clear HB
    have BK118 := n0_
    have HB := n1_
    clear n0_ n1_
    refine hK.out _ _ ⟨(kce BK118.out 0).trans rfl, (kce BK118.out 1).trans rfl, (kce BK118.out 2).trans rfl⟩ (fun hHeld => ?_)
    clear hK K
    refine norm_ (a' := ?_) ?_ ?_
    rotate_left
    ·show Act.put _ (some 12) _ = _
     simp only [Act.put, sit, scz, scs, i64_w, i32_w]
     rfl
    refine pure_ (i := 6) (N := some 13) (v := ?_) (a' := ?_) #[true, true, true, true, true, true, true, true, true, false, false, false] rfl rfl (any_of HT_.out (by kernel_rfl)) (fun _ _ _ h => h) (Or.inl ⟨by rfl, ?_⟩) ?_ ?_
    rotate_left
    ·intro w'
     go_simp
     with_reducible rfl
    rotate_left
    ·simp only [Act.put, sit, scz, scs, i64_w, i32_w]
     rfl
    refine one_ (i := 9) (N := some 16) #[true, true, true, true, true, true, true, true, true, true, false, false] rfl rfl (one_of HT_.out (by kernel_rfl)) (by decide) (fun K hK => ?_)
    refine goes_ Try.func89 (by kernel_rfl) rfl #[.string a0_2] (by rfl) rfl rfl (by (try simp only [mta, mco, mni]); first | done | rfl | (simp only [lnd, lnt]; rfl)) ?_
    with_reducible refine (impl_PutText.calls k a0_2 t124 _ A8.out).mono ?_
    rintro e w17 ⟨rfl, hb⟩
    refine ⟨_, rfl, ?_⟩
    have n0_ := am (kbb (g := gb118) (o := .cells #[.int .i64 a0_0, .int .i64 a0_1, .string a0_2] 60 (0, 0)) (by (with_reducible repeat (first | apply kdn | apply kdr | apply kal)); exact BK118.out) hb)
    have n1_ := am (below_step (by repeat (first | (with_reducible first | exact HB.out | apply bal | apply pdn | apply bd1 | refine bst ?_ GE118.out) | exact HB.out)) hb)
    clear BK118
    clear HB
    have BK118 := n0_
    have HB := n1_
    clear n0_ n1_
    refine hK.out _ _ ⟨(kce BK118.out 0).trans rfl, (kce BK118.out 1).trans rfl, (kce BK118.out 2).trans rfl⟩ (fun hHeld => ?_)
    clear hK K
    refine norm_ (a' := ?_) ?_ ?_
    rotate_left
    ·show Act.put _ (some 16) _ = _
     simp only [Act.put, sit, scz, scs, i64_w, i32_w]
     rfl
    refine pure_ (i := 10) (N := some 17) (v := ?_) (a' := ?_) #[true, true, true, true, true, true, true, true, true, true, true, false] rfl rfl (any_of HT_.out (by kernel_rfl)) (fun _ _ _ h => h) (Or.inl ⟨by rfl, ?_⟩) ?_ ?_
    rotate_left
    ·intro w'
     go_simp
     with_reducible rfl
    rotate_left
    ·simp only [Act.put, sit, scz, scs, i64_w, i32_w]
     rfl
    refine pure_ (i := 11) (N := some 2) (v := ?_) (a' := ?_) #[true, true, true, true, true, true, true, true, true, true, true, true] rfl rfl (any_of HT_.out (by kernel_rfl)) (fun _ _ _ h => h) (Or.inl ⟨by rfl, ?_⟩) ?_ ?_
    rotate_left
    ·intro w'
     go_simp
     with_reducible rfl
    rotate_left
    ·simp only [Act.put, sit, scz, scs, i64_w, i32_w]
     rfl
    refine done_ (done_of HT_.out (by kernel_rfl)) ?_
    try go_wp2
    go_ret
    exact ⟨by first | rfl | (simp [errW_none, errW_some] <;> rfl) | (simp [*, errW_none, errW_some] <;> rfl), by repeat (first | (with_reducible first | exact HB.out | apply bal | apply pdn | apply bd1 | refine bst ?_ GE118.out) | exact HB.out)⟩
   ·rw [if_neg c9] at H
    exact absurd H (by simp)
  ·rw [if_neg c7] at H
   exact absurd H (by simp)
 ·replace c4 := Bool.eq_false_iff.mpr c4
  subst c4
  have H1 : (some (⟨#[]⟩ : ByteArray)) = some r := by rw [if_neg (show ¬ (false = true) by decide)] at H; exact H
  clear H
  have H := H1
  clear H1
  obtain rfl := Option.some.inj H
  go_enter Try.func39, Try.ntmps39
  try go_wp2_with (first | ((with_reducible refine gate_dst (N := 1) rfl ?_); refine box_event ?hg (N := 1) ?hd (cs := #[.int .i64 a0_0, .int .i64 a0_1, .string a0_2]) (t := 60) ?hr ?_; (case hd => rfl); (case hg => rfl); (case hr => first | (go_simp; done) | (go_simp; rfl)); intro gb118 hg w18 hbox hb; have n0_ := am (below_step (by repeat (first | (with_reducible first | exact HB.out | apply bal | apply pdn | apply bd1) | exact HB.out)) hb); have n1_ := am (hbox); have n2_ := am ((by rw [hg]; exact (below_size (by repeat (first | (with_reducible first | exact HB.out | apply bal | apply pdn | apply bd1) | exact HB.out))) : w.heap.size ≤ gb118)); have n3_ := am ((by rw [hg]; exact (below_size (by repeat (first | (with_reducible first | exact HB.out | apply bal | apply pdn | apply bd1) | exact HB.out))) : w.heap.size ≤ gb118)); clear HB; have HB := n0_; have BK118 := n1_; have GW118 := n2_; have GE118 := n3_; clear n0_ n1_ n2_ n3_; clear hb hbox hg))
  have n0_ := am (kdr BK118.out)
  have n1_ := am (bd1 HB.out)
  clear BK118
  clear HB
  have BK118 := n0_
  have HB := n1_
  clear n0_ n1_
  refine start_ (n := 4) (S := fun w' => w'.cell? ⟨gb118, 0, none⟩ = some (.int .i64 a0_0) ∧ w'.cell? ⟨gb118, 1, none⟩ = some (.int .i64 a0_1) ∧ w'.cell? ⟨gb118, 2, none⟩ = some (.string a0_2)) (ds := []) #[false, false, false, false] (by kernel_rfl) rfl rfl ⟨(kce BK118.out 0).trans rfl, (kce BK118.out 1).trans rfl, (kce BK118.out 2).trans rfl⟩ (fun hHeld => ?_)
  generalize w18.drew = w19 at BK118 HB hHeld ⊢
  refine take_ (i := 1) (N := some 4) (v := ?_) (a' := ?_) #[false, true, false, false] rfl rfl (by kernel_rfl) (fun _ _ _ h => h) (Or.inl ⟨by rfl, ?_⟩) hHeld ?_ ?_
  rotate_left
  ·rintro w' ⟨s0, s1, s2⟩
   go_simp
   with_reducible rfl
  rotate_left
  ·simp only [Act.put, sit, scz, scs, i64_w, i32_w]
   rfl
  refine one_ (i := 0) (N := some 3) #[true, true, false, false] rfl rfl (by kernel_rfl) (by decide) (fun K hK => ?_)
  refine goes_ Try.func87 (by kernel_rfl) rfl #[] (by rfl) rfl rfl (by (try simp only [mta, mco, mni]); first | done | rfl | (simp only [lnd, lnt]; rfl)) ?_
  with_reducible refine (impl_plainCode.calls  t119 t120 _ A2.out).mono ?_
  rintro e w20 ⟨rfl, hb⟩
  refine ⟨_, rfl, ?_⟩
  have n0_ := am (kbb (g := gb118) (o := .cells #[.int .i64 a0_0, .int .i64 a0_1, .string a0_2] 60 (0, 0)) (by (with_reducible repeat (first | apply kdn | apply kdr | apply kal)); exact BK118.out) hb)
  have n1_ := am (below_step (by repeat (first | (with_reducible first | exact HB.out | apply bal | apply pdn | apply bd1 | refine bst ?_ GE118.out) | exact HB.out)) hb)
  clear BK118
  clear HB
  have BK118 := n0_
  have HB := n1_
  clear n0_ n1_
  refine hK.out _ _ ⟨(kce BK118.out 0).trans rfl, (kce BK118.out 1).trans rfl, (kce BK118.out 2).trans rfl⟩ (fun hHeld => ?_)
  clear hK K
  refine norm_ (a' := ?_) ?_ ?_
  rotate_left
  ·show Act.put _ (some 3) _ = _
   simp only [Act.put, sit, scz, scs, i64_w, i32_w]
   rfl
  refine one_ (i := 2) (N := some 5) #[true, true, true, false] rfl rfl (by kernel_rfl) (by decide) (fun K hK => ?_)
  refine goes_ Try.func86 (by kernel_rfl) rfl #[.agg #[.int .i64 t119, .int .i64 t120], .agg #[.int .i64 a0_0, .int .i64 a0_1, .string a0_2]] (by rfl) rfl rfl (by (try simp only [mta, mco, mni]); first | done | rfl | (simp only [lnd, lnt]; rfl)) ?_
  with_reducible refine (impl_OpOk.calls k t119 t120 a0_0 a0_1 a0_2 false _ A3.out).mono ?_
  rintro e w21 ⟨rfl, hb⟩
  refine ⟨_, rfl, ?_⟩
  have n0_ := am (kbb (g := gb118) (o := .cells #[.int .i64 a0_0, .int .i64 a0_1, .string a0_2] 60 (0, 0)) (by (with_reducible repeat (first | apply kdn | apply kdr | apply kal)); exact BK118.out) hb)
  have n1_ := am (below_step (by repeat (first | (with_reducible first | exact HB.out | apply bal | apply pdn | apply bd1 | refine bst ?_ GE118.out) | exact HB.out)) hb)
  clear BK118
  clear HB
  have BK118 := n0_
  have HB := n1_
  clear n0_ n1_
  refine hK.out _ _ ⟨(kce BK118.out 0).trans rfl, (kce BK118.out 1).trans rfl, (kce BK118.out 2).trans rfl⟩ (fun hHeld => ?_)
  clear hK K
  refine norm_ (a' := ?_) ?_ ?_
  rotate_left
  ·show Act.put _ (some 5) _ = _
   simp only [Act.put, sit, scz, scs, i64_w, i32_w]
   rfl
  refine pure_ (i := 3) (N := some 6) (v := ?_) (a' := ?_) #[true, true, true, true] rfl rfl (by kernel_rfl) (fun _ _ _ h => h) (Or.inl ⟨by rfl, ?_⟩) ?_ ?_
  rotate_left
  ·intro w'
   go_simp
   with_reducible rfl
  rotate_left
  ·simp only [Act.put, sit, scz, scs, i64_w, i32_w]
   rfl
  refine done_ (by kernel_rfl) ?_
  try go_wp2
  go_ret
  exact ⟨by first | rfl | (simp [errW_none, errW_some] <;> rfl) | (simp [*, errW_none, errW_some] <;> rfl), by repeat (first | (with_reducible first | exact HB.out | apply bal | apply pdn | apply bd1 | refine bst ?_ GE118.out) | exact HB.out)⟩

/-! ### impl_GetVar: function 120 -/
mutual
def impl_GetVar.l0 : Nat → ByteArray → Int → Int → Option (Int × Int × Bool)
 | 0, _, _, _ => none
 | k + 1, x0, x5, x6 => if x6 < (x0.size : Int) then (impl_GetVar.j1 k x0 x5 x6 (decide (x6 < 9))) else (impl_GetVar.j1 k x0 x5 x6 false)
def impl_GetVar.j1 : Nat → ByteArray → Int → Int → Bool → Option (Int × Int × Bool)
 | 0, _, _, _, _ => none
 | k + 1, x0, x5, x6, x15 => if x15 = true then (if 0 ≤ x6 then (if x6 < (x0.size : Int) then (if 0 ≤ (wrap64 (7 * x6)) then (if (wrap64 (bt x0 x6)) < 128 then (if (Go.bits .or .i64 x5 (shl .i64 (Int.tmod (wrap64 (bt x0 x6)) 128) (wrap64 (7 * x6)))) > 4611686018427387904 then (some (0, 0, false)) else (if x6 > 0 then (if (wrap64 (bt x0 x6)) = 0 then (some (0, 0, false)) else (some (Go.bits .or .i64 x5 (shl .i64 (Int.tmod (wrap64 (bt x0 x6)) 128) (wrap64 (7 * x6))), wrap64 (x6 + 1), true))) else (some (Go.bits .or .i64 x5 (shl .i64 (Int.tmod (wrap64 (bt x0 x6)) 128) (wrap64 (7 * x6))), wrap64 (x6 + 1), true)))) else (impl_GetVar.l0 k x0 (Go.bits .or .i64 x5 (shl .i64 (Int.tmod (wrap64 (bt x0 x6)) 128) (wrap64 (7 * x6)))) (wrap64 (x6 + 1)))) else (none)) else (none)) else (none)) else (some (0, 0, false))
end
def impl_GetVar.f (k : Nat) (a0 : ByteArray) : Option (Int × Int × Bool) := impl_GetVar.l0 k a0 0 0
theorem impl_GetVar.mono_l : ∀ k, (∀ y0 y1 y2, LeO (impl_GetVar.l0 k y0 y1 y2) (impl_GetVar.l0 (k + 1) y0 y1 y2)) ∧ (∀ y0 y1 y2 y3, LeO (impl_GetVar.j1 k y0 y1 y2 y3) (impl_GetVar.j1 (k + 1) y0 y1 y2 y3))
 | 0 => ⟨fun _ _ _ r h => by simp [impl_GetVar.l0] at h, fun _ _ _ _ r h => by simp [impl_GetVar.j1] at h⟩
 | k + 1 => by
  obtain ⟨ih0, ih1⟩ := impl_GetVar.mono_l k
  refine ⟨?_, ?_⟩
  ·intro y0 y1 y2
   unfold impl_GetVar.l0
   repeat' first
   | (with_reducible exact ih0 _ _ _)
   | (with_reducible exact ih1 _ _ _ _)
   | (with_reducible exact LeO.refl _)
   | (with_reducible exact LeO.none _)
   | (with_reducible refine LeO.ite ?_ ?_)
   | (with_reducible refine LeO.bind ?_ (fun _ => ?_))
   | exact ih0 _ _ _
   | exact ih1 _ _ _ _
   | exact LeO.none _
   | refine LeO.ite ?_ ?_
   | refine LeO.bind ?_ (fun _ => ?_)
  ·intro y0 y1 y2 y3
   unfold impl_GetVar.j1
   repeat' first
   | (with_reducible exact ih0 _ _ _)
   | (with_reducible exact ih1 _ _ _ _)
   | (with_reducible exact LeO.refl _)
   | (with_reducible exact LeO.none _)
   | (with_reducible refine LeO.ite ?_ ?_)
   | (with_reducible refine LeO.bind ?_ (fun _ => ?_))
   | exact ih0 _ _ _
   | exact ih1 _ _ _ _
   | exact LeO.none _
   | refine LeO.ite ?_ ?_
   | refine LeO.bind ?_ (fun _ => ?_)
theorem impl_GetVar.mono : ∀ a0 k, LeO (impl_GetVar.f k a0) (impl_GetVar.f (k + 1) a0) := by
 intro a0 k
 obtain ⟨ih0, ih1⟩ := impl_GetVar.mono_l k
 unfold impl_GetVar.f
 repeat' first
   | (with_reducible exact ih0 _ _ _)
   | (with_reducible exact ih1 _ _ _ _)
   | (with_reducible exact LeO.refl _)
   | (with_reducible exact LeO.none _)
   | (with_reducible refine LeO.ite ?_ ?_)
   | (with_reducible refine LeO.bind ?_ (fun _ => ?_))
   | exact ih0 _ _ _
   | exact ih1 _ _ _ _
   | exact LeO.none _
   | refine LeO.ite ?_ ?_
   | refine LeO.bind ?_ (fun _ => ?_)
set_option maxHeartbeats 8000000 in
set_option maxRecDepth 100000 in
theorem impl_GetVar.calls (k : Nat) (a0 : ByteArray) (r1 : Int) (r2 : Int) (r3 : Bool) (w : World) (h : impl_GetVar.f k a0 = some (r1, r2, r3)) :
  Calls Try.prog 120 #[.string a0] w fun e w' => e = .returned (.tuple #[.int .i64 r1, .int .i64 r2, .bool r3]) ∧ Drawn0 w w' := by
 have H : (impl_GetVar.l0 k a0 0 0) = some (r1, r2, r3) := h
 clear h
 have H' := am H
 clear H
 go_enter Try.func120, Try.ntmps120
 go_wp2
 go_loopg [5, 6] k (fun kq v5 v6 w' => ∃ (x5_1 : Int) (x6_1 : Int), v5 = .int .i64 x5_1 ∧ v6 = .int .i64 x6_1 ∧ Aside0 (impl_GetVar.l0 kq a0 x5_1 x6_1 = some (r1, r2, r3)) ∧ Aside0 (kq ≤ k) ∧ Drawn0 w w')
 case atStart => exact ⟨(0), (0), (by first | rfl | (simp; done) | (simp [*]; done)), (by first | rfl | (simp; done) | (simp [*]; done)), H', ⟨Nat.le_refl _⟩, by repeat (first | exact Drawn0.refl _ | apply Drawn0.step)⟩
 case round =>
  clear H'
  obtain ⟨x5_1, x6_1, rfl, rfl, HA, HK1, ⟨m1, rfl⟩⟩ := hrel
  cases gk with
  | zero => exact absurd HA.out (by simp [impl_GetVar.l0])
  | succ k1 =>
   have H := HA.out
   clear HA
   simp only [impl_GetVar.l0] at H
   have HC2 := am H
   clear H
   go_upto_region 3 with (fail)
   go_cut [15] (fun v15 wc => ∃ (kq : Nat) (x15_1 : Bool), v15 = .bool x15_1 ∧ Aside0 (impl_GetVar.j1 kq a0 x5_1 x6_1 x15_1 = some (r1, r2, r3)) ∧ Aside0 (kq ≤ k1) ∧ Drawn0 w wc)
   case first =>
    have H := HC2.out
    clear HC2
    by_cases c3 : x6_1 < (a0.size : Int)
    ·rw [if_pos c3] at H
     have c3b0 : decide (x6_1 < (a0.size : Int)) = true := decide_eq_true c3
     clear c3
     (first | rw [c3b0] | (simp only [i64_w, i32_w]; rw [c3b0]) | skip)
     have H' := am H
     clear H
     go_wp2
     go_meet
     case rel => exact ⟨_, (decide (x6_1 < 9)), (by first | rfl | (simp; done) | (simp [*]; done)), H', ⟨by have := HK1.out; first | omega | exact Nat.le_refl _⟩, by repeat (first | exact Drawn0.refl _ | apply Drawn0.step)⟩
    ·rw [if_neg c3] at H
     have c3b0 : decide (x6_1 < (a0.size : Int)) = false := decide_eq_false c3
     clear c3
     (first | rw [c3b0] | (simp only [i64_w, i32_w]; rw [c3b0]) | skip)
     have H' := am H
     clear H
     go_wp2
     go_meet
     case rel => exact ⟨_, (false), (by first | rfl | (simp; done) | (simp [*]; done)), H', ⟨by have := HK1.out; first | omega | exact Nat.le_refl _⟩, by repeat (first | exact Drawn0.refl _ | apply Drawn0.step)⟩
   case rest =>
    clear HC2
    obtain ⟨kq, x15_1, rfl, HA, HJ1, ⟨mc1, rfl⟩⟩ := hcut
    cases kq with
    | zero => exact absurd HA.out (by simp [impl_GetVar.j1])
    | succ kj1 =>
     have H := HA.out
     clear HA
     simp only [impl_GetVar.j1] at H
     by_cases c4 : x15_1 = true
     ·subst c4
      have H1 : (if 0 ≤ x6_1 then (if x6_1 < (a0.size : Int) then (if 0 ≤ (wrap64 (7 * x6_1)) then (if (wrap64 (bt a0 x6_1)) < 128 then (if (Go.bits .or .i64 x5_1 (shl .i64 (Int.tmod (wrap64 (bt a0 x6_1)) 128) (wrap64 (7 * x6_1)))) > 4611686018427387904 then (some (0, 0, false)) else (if x6_1 > 0 then (if (wrap64 (bt a0 x6_1)) = 0 then (some (0, 0, false)) else (some (Go.bits .or .i64 x5_1 (shl .i64 (Int.tmod (wrap64 (bt a0 x6_1)) 128) (wrap64 (7 * x6_1))), wrap64 (x6_1 + 1), true))) else (some (Go.bits .or .i64 x5_1 (shl .i64 (Int.tmod (wrap64 (bt a0 x6_1)) 128) (wrap64 (7 * x6_1))), wrap64 (x6_1 + 1), true)))) else (impl_GetVar.l0 kj1 a0 (Go.bits .or .i64 x5_1 (shl .i64 (Int.tmod (wrap64 (bt a0 x6_1)) 128) (wrap64 (7 * x6_1)))) (wrap64 (x6_1 + 1)))) else (none)) else (none)) else (none)) = some (r1, r2, r3) := by rw [if_pos rfl] at H; exact H
      clear H
      have H := H1
      clear H1
      by_cases c5 : 0 ≤ x6_1
      ·rw [if_pos c5] at H
       have c5b0 : decide (0 ≤ x6_1) = true := decide_eq_true c5
       clear c5
       by_cases c6 : x6_1 < (a0.size : Int)
       ·rw [if_pos c6] at H
        have c6b0 : decide (x6_1 < (a0.size : Int)) = true := decide_eq_true c6
        clear c6
        obtain ⟨ji8, hji8⟩ : ∃ j_ : Int, (wrap64 (7 * x6_1)) = j_ := ⟨_, rfl⟩
        replace H : (if 0 ≤ (ji8) then (if (wrap64 (bt a0 x6_1)) < 128 then (if (Go.bits .or .i64 x5_1 (shl .i64 (Int.tmod (wrap64 (bt a0 x6_1)) 128) (ji8))) > 4611686018427387904 then (some (0, 0, false)) else (if x6_1 > 0 then (if (wrap64 (bt a0 x6_1)) = 0 then (some (0, 0, false)) else (some (Go.bits .or .i64 x5_1 (shl .i64 (Int.tmod (wrap64 (bt a0 x6_1)) 128) (ji8)), wrap64 (x6_1 + 1), true))) else (some (Go.bits .or .i64 x5_1 (shl .i64 (Int.tmod (wrap64 (bt a0 x6_1)) 128) (ji8)), wrap64 (x6_1 + 1), true)))) else (impl_GetVar.l0 kj1 a0 (Go.bits .or .i64 x5_1 (shl .i64 (Int.tmod (wrap64 (bt a0 x6_1)) 128) (ji8))) (wrap64 (x6_1 + 1)))) else (none)) = some (r1, r2, r3) := by first | (rw [hji8] at H; exact H) | (simp only [hji8] at H ⊢; exact H)
        have hji8w : (IntKind.i64.wrap (7 * x6_1)) = ji8 := (i64_w _).trans hji8
        by_cases c9 : 0 ≤ (ji8)
        ·rw [if_pos c9] at H
         have c9b0 := eq_true c9
         have c9b1 : decide (0 ≤ (ji8)) = true := decide_eq_true c9
         clear c9
         obtain ⟨ji10, hji10⟩ : ∃ j_ : Int, (shl .i64 (Int.tmod (wrap64 (bt a0 x6_1)) 128) (ji8)) = j_ := ⟨_, rfl⟩
         replace H : (if (wrap64 (bt a0 x6_1)) < 128 then (if (Go.bits .or .i64 x5_1 (ji10)) > 4611686018427387904 then (some (0, 0, false)) else (if x6_1 > 0 then (if (wrap64 (bt a0 x6_1)) = 0 then (some (0, 0, false)) else (some (Go.bits .or .i64 x5_1 (ji10), wrap64 (x6_1 + 1), true))) else (some (Go.bits .or .i64 x5_1 (ji10), wrap64 (x6_1 + 1), true)))) else (impl_GetVar.l0 kj1 a0 (Go.bits .or .i64 x5_1 (ji10)) (wrap64 (x6_1 + 1)))) = some (r1, r2, r3) := by first | (rw [hji10] at H; exact H) | (simp only [hji10] at H ⊢; exact H)
         have hji10_ : (IntKind.i64.wrap ((Int.tmod (wrap64 (bt a0 x6_1)) 128) * 2 ^ min (ji8).toNat 64)) = ji10 := hji10
         have hji10z : (ji8) ≤ 64 → (IntKind.i64.wrap ((Int.tmod (wrap64 (bt a0 x6_1)) 128) * 2 ^ (ji8).toNat)) = ji10 := shl_small hji10
         have hji10y : (wrap64 ((Int.tmod (wrap64 (bt a0 x6_1)) 128) * 2 ^ min (ji8).toNat 64)) = ji10 := (i64_w _).symm.trans hji10_
         have hji10x : (ji8) ≤ 64 → (wrap64 ((Int.tmod (wrap64 (bt a0 x6_1)) 128) * 2 ^ (ji8).toNat)) = ji10 := fun h_ => (i64_w _).symm.trans (hji10z h_)
         by_cases c11 : (wrap64 (bt a0 x6_1)) < 128
         ·rw [if_pos c11] at H
          have c11b0 : decide ((wrap64 (bt a0 x6_1)) < 128) = true := decide_eq_true c11
          clear c11
          by_cases c12 : (Go.bits .or .i64 x5_1 (ji10)) > 4611686018427387904
          ·rw [if_pos c12] at H
           have c12b0 : decide (4611686018427387904 < (Go.bits .or .i64 x5_1 (ji10))) = true := decide_eq_true c12
           clear c12
           simp only [Option.some.injEq, Prod.mk.injEq] at H
           obtain ⟨rfl, rfl, rfl⟩ := H
           have p7 : 0 ≤ (x6_1 : Int) := of_decide_eq_true (by first | (with_reducible assumption) | assumption)
           have q7 : x6_1 < (a0.size : Int) := of_decide_eq_true (by first | (with_reducible assumption) | assumption)
           have hx7 := bt_at a0 x6_1
           replace p7 := eq_true p7
           replace q7 := eq_true q7
           go_wp2
           go_ret3
           exact ⟨by first | rfl | (simp; done) | (simp only [← hji8, ← hji10] <;> (first | rfl | simp)) | (simp [*]; done), by repeat (first | exact Drawn0.refl _ | apply Drawn0.step)⟩
          ·rw [if_neg c12] at H
           have c12b0 : decide (4611686018427387904 < (Go.bits .or .i64 x5_1 (ji10))) = false := decide_eq_false c12
           clear c12
           by_cases c13 : x6_1 > 0
           ·rw [if_pos c13] at H
            have c13b0 : decide (0 < x6_1) = true := decide_eq_true c13
            clear c13
            by_cases c14 : (wrap64 (bt a0 x6_1)) = 0
            ·rw [if_pos c14] at H
             have c14b0 : ((wrap64 (bt a0 x6_1)) == 0) = true := beq_iff_eq.mpr c14
             have c14b1 : ((wrap64 (bt a0 x6_1)) != 0) = false := bne_eq_false_iff_eq.mpr c14
             clear c14
             simp only [Option.some.injEq, Prod.mk.injEq] at H
             obtain ⟨rfl, rfl, rfl⟩ := H
             have p7 : 0 ≤ (x6_1 : Int) := of_decide_eq_true (by first | (with_reducible assumption) | assumption)
             have q7 : x6_1 < (a0.size : Int) := of_decide_eq_true (by first | (with_reducible assumption) | assumption)
             have hx7 := bt_at a0 x6_1
             replace p7 := eq_true p7
             replace q7 := eq_true q7
             go_wp2
             go_ret3
             exact ⟨by first | rfl | (simp; done) | (simp only [← hji8, ← hji10] <;> (first | rfl | simp)) | (simp [*]; done), by repeat (first | exact Drawn0.refl _ | apply Drawn0.step)⟩
            ·rw [if_neg c14] at H
             have c14b0 : ((wrap64 (bt a0 x6_1)) == 0) = false := beq_eq_false_iff_ne.mpr c14
             have c14b1 : ((wrap64 (bt a0 x6_1)) != 0) = true := bne_iff_ne.mpr c14
             simp only [Option.some.injEq, Prod.mk.injEq] at H
             obtain ⟨rfl, rfl, rfl⟩ := H
             have p7 : 0 ≤ (x6_1 : Int) := of_decide_eq_true (by first | (with_reducible assumption) | assumption)
             have q7 : x6_1 < (a0.size : Int) := of_decide_eq_true (by first | (with_reducible assumption) | assumption)
             have hx7 := bt_at a0 x6_1
             replace p7 := eq_true p7
             replace q7 := eq_true q7
             go_wp2
             go_ret3
             exact ⟨by first | rfl | (simp; done) | (simp only [← hji8, ← hji10] <;> (first | rfl | simp)) | (simp [*]; done), by repeat (first | exact Drawn0.refl _ | apply Drawn0.step)⟩
           ·rw [if_neg c13] at H
            have c13b0 : decide (0 < x6_1) = false := decide_eq_false c13
            clear c13
            simp only [Option.some.injEq, Prod.mk.injEq] at H
            obtain ⟨rfl, rfl, rfl⟩ := H
            have p7 : 0 ≤ (x6_1 : Int) := of_decide_eq_true (by first | (with_reducible assumption) | assumption)
            have q7 : x6_1 < (a0.size : Int) := of_decide_eq_true (by first | (with_reducible assumption) | assumption)
            have hx7 := bt_at a0 x6_1
            replace p7 := eq_true p7
            replace q7 := eq_true q7
            go_wp2
            go_ret3
            exact ⟨by first | rfl | (simp; done) | (simp only [← hji8, ← hji10] <;> (first | rfl | simp)) | (simp [*]; done), by repeat (first | exact Drawn0.refl _ | apply Drawn0.step)⟩
         ·rw [if_neg c11] at H
          have c11b0 : decide ((wrap64 (bt a0 x6_1)) < 128) = false := decide_eq_false c11
          clear c11
          have H' := am H
          clear H
          have p7 : 0 ≤ (x6_1 : Int) := of_decide_eq_true (by first | (with_reducible assumption) | assumption)
          have q7 : x6_1 < (a0.size : Int) := of_decide_eq_true (by first | (with_reducible assumption) | assumption)
          have hx7 := bt_at a0 x6_1
          replace p7 := eq_true p7
          replace q7 := eq_true q7
          go_wp2
          go_roundg kj1
          case measure => have := HK1.out; have := HJ1.out; omega
          case rel => exact ⟨(Go.bits .or .i64 x5_1 (ji10)), (wrap64 (x6_1 + 1)), (by first | rfl | (simp; done) | (simp only [← hji10] <;> (first | rfl | simp)) | (simp [*]; done)), (by first | rfl | (simp; done) | (simp [*]; done)), H', ⟨by have := HK1.out; have := HJ1.out; omega⟩, by repeat (first | exact Drawn0.refl _ | apply Drawn0.step)⟩
        ·rw [if_neg c9] at H
         exact absurd H (by simp)
       ·rw [if_neg c6] at H
        exact absurd H (by simp)
      ·rw [if_neg c5] at H
       exact absurd H (by simp)
     ·replace c4 := Bool.eq_false_iff.mpr c4
      subst c4
      have H1 : (some (0, 0, false)) = some (r1, r2, r3) := by rw [if_neg (show ¬ (false = true) by decide)] at H; exact H
      clear H
      have H := H1
      clear H1
      simp only [Option.some.injEq, Prod.mk.injEq] at H
      obtain ⟨rfl, rfl, rfl⟩ := H
      go_wp2
      go_ret3
      exact ⟨by first | rfl | (simp; done) | (simp [*]; done), by repeat (first | exact Drawn0.refl _ | apply Drawn0.step)⟩

/-- A state of type 119 at block g of W; what its slices lead to came in by w0. -/
def IsS119 (w0 W : World) (g : Nat) (f0 : ByteArray) (f1 : Bool) : Prop := W.heap[g]? = some (.cells #[.string f0, .bool f1] 119 (0, 0)) ∧ w0.heap.size ≤ g
theorem IsS119.grown {w0 W : World} {g : Nat} {f0 : ByteArray} {f1 : Bool} {W1 : World} {row : Option Nat} (h : IsS119 w0 W g f0 f1) (hw : W.grownBy W1 row) (hne : some g ≠ row) : IsS119 w0 W1 g f0 f1 := by
 obtain ⟨hb, hg⟩ := h
 exact ⟨blk_grown hb hw hne, hg⟩
theorem IsS119.own_neN {w0 W : World} {g : Nat} {f0 : ByteArray} {f1 : Bool} {α : Type} {d : Kd α} {e : Nat} {base : Nat} {ok : Nat → Prop} {v : Value} {xs : List α} (h : IsS119 w0 W g f0 f1) (ho : Kd.N d e W base ok v xs) (ht : e ≠ 119) : some g ≠ v.ownBlock := by
 obtain ⟨hb, hg⟩ := h
 exact Kd.N_ne ho hb ht
theorem IsS119.fresh {w0 W : World} {g : Nat} {f0 : ByteArray} {f1 : Bool} (h : IsS119 w0 W g f0 f1) : ∀ k, W.heap.size ≤ k → k ≠ g := by
 obtain ⟨hb, hg⟩ := h
 exact Kd.freshB hb
theorem IsS119.kept {w0 W : World} {g : Nat} {f0 : ByteArray} {f1 : Bool} {W1 : World} {S : Nat → Prop} (h : IsS119 w0 W g f0 f1) (hk : Kept W W1 S) (hne : ¬ S g) : IsS119 w0 W1 g f0 f1 := by
 obtain ⟨hb, hg⟩ := h
 exact ⟨blk_kept hb hk hne, hg⟩
theorem IsS119.below {w0 W : World} {g : Nat} {f0 : ByteArray} {f1 : Bool} {W1 : World} (h : IsS119 w0 W g f0 f1) (hw : Below W.heap.size W W1) : IsS119 w0 W1 g f0 f1 := h.grown (grown_of_below hw none) (by simp)
theorem IsS119.alloc {w0 W : World} {g : Nat} {f0 : ByteArray} {f1 : Bool} (h : IsS119 w0 W g f0 f1) (o : Obj) : IsS119 w0 (W.alloc o) g f0 f1 := h.below (bal (Below.refl _ _) o)
theorem IsS119.drewN {w0 W : World} {g : Nat} {f0 : ByteArray} {f1 : Bool} (h : IsS119 w0 W g f0 f1) (m : Nat) : IsS119 w0 (W.drewN m) g f0 f1 := h
theorem IsS119.drew {w0 W : World} {g : Nat} {f0 : ByteArray} {f1 : Bool} (h : IsS119 w0 W g f0 f1) : IsS119 w0 W.drew g f0 f1 := h
theorem IsS119.at_ {w0 W : World} {g : Nat} {f0 : ByteArray} {f1 : Bool} {w' : World} {m : Nat} (hq : W.drewN m = w') (h : IsS119 w0 W g f0 f1) : IsS119 w0 w' g f0 f1 := by subst hq; exact IsS119.drewN h m
theorem IsS119.apart {w0 W : World} {g : Nat} {f0 : ByteArray} {f1 : Bool} {α : Type} {d : Kd α} {e : Nat} {base : Nat} {ok : Nat → Prop} {v : Value} {xs : List α} (h : IsS119 w0 W g f0 f1) (ho : d.R e W base ok v xs) (ht : ∀ q, q ∈ e :: d.E → q ≠ 119) : d.R e W base (fun k => ok k ∧ k ≠ g) v xs := by
 obtain ⟨hb, hg⟩ := h
 exact Kd.R_types ho hb ht
theorem IsS119.own_ne {w0 W : World} {g : Nat} {f0 : ByteArray} {f1 : Bool} {α : Type} {d : Kd α} {e : Nat} {base : Nat} {ok : Nat → Prop} {v : Value} {xs : List α} (h : IsS119 w0 W g f0 f1) (ho : d.R e W base ok v xs) (ht : e ≠ 119) : some g ≠ v.ownBlock := by
 obtain ⟨hb, hg⟩ := h
 exact Kd.R_ne ho hb ht
theorem IsS119.apartQ {w0 W : World} {g : Nat} {f0 : ByteArray} {f1 : Bool} {α : Type} {d : Kd α} {e : Nat} {base : Nat} {ok : Nat → Prop} {v : Value} {xs : List α} (h : IsS119 w0 W g f0 f1) (ho : d.Q e W base ok v xs) (ht : ∀ q, q ∈ e :: d.E → q ≠ 119) : d.Q e W base (fun k => ok k ∧ k ≠ g) v xs := by
 obtain ⟨hb, hg⟩ := h
 exact Kd.Q_types ho hb ht
theorem IsS119.own_neQ {w0 W : World} {g : Nat} {f0 : ByteArray} {f1 : Bool} {α : Type} {d : Kd α} {e : Nat} {base : Nat} {ok : Nat → Prop} {v : Value} {xs : List α} (h : IsS119 w0 W g f0 f1) (ho : d.Q e W base ok v xs) (ht : e ≠ 119) : some g ≠ v.ownBlock := by
 obtain ⟨hb, hg⟩ := h
 exact Kd.Q_ne ho hb ht
theorem IsS119.apartS {w0 W : World} {g : Nat} {f0 : ByteArray} {f1 : Bool} {α : Type} {d : Kd α} {e : Nat} {base : Nat} {ok : Nat → Prop} {v : Value} {xs : List α} (h : IsS119 w0 W g f0 f1) (ho : d.S e W base ok v xs) (ht : ∀ q, q ∈ e :: d.E → q ≠ 119) : d.S e W base (fun k => ok k ∧ k ≠ g) v xs := by
 obtain ⟨hb, hg⟩ := h
 exact Kd.S_types ho hb ht
theorem IsS119.own_neS {w0 W : World} {g : Nat} {f0 : ByteArray} {f1 : Bool} {α : Type} {d : Kd α} {e : Nat} {base : Nat} {ok : Nat → Prop} {v : Value} {xs : List α} (h : IsS119 w0 W g f0 f1) (ho : d.S e W base ok v xs) (ht : e ≠ 119) : some g ≠ v.ownBlock := by
 obtain ⟨hb, hg⟩ := h
 exact Kd.S_ne ho hb ht
theorem IsS119.lt {w0 W : World} {g : Nat} {f0 : ByteArray} {f1 : Bool} (h : IsS119 w0 W g f0 f1) : g < W.heap.size := by
 obtain ⟨hb, hg⟩ := h
 exact blk_lt hb
theorem IsS119.ge {w0 W : World} {g : Nat} {f0 : ByteArray} {f1 : Bool} (h : IsS119 w0 W g f0 f1) : w0.heap.size ≤ g := by
 obtain ⟨hb, hg⟩ := h
 exact hg
theorem IsS119.ne_blk {w0 W : World} {g : Nat} {f0 : ByteArray} {f1 : Bool} {a : Nat} {cs : Array Value} {t : TypeId} {fr : Nat × Nat} (h : IsS119 w0 W g f0 f1) (hb2 : W.heap[a]? = some (.cells cs t fr)) (ht : t ≠ 119) : g ≠ a := by
 obtain ⟨hb, hg⟩ := h
 rintro rfl
 rw [hb] at hb2
 injection hb2 with hb2
 injection hb2 with _ ht2
 exact ht ht2.symm
theorem IsS119.far {w0 W : World} {g : Nat} {f0 : ByteArray} {f1 : Bool} {p : Addr} (h : IsS119 w0 W g f0 f1) (hne : g ≠ p.block) (u : Value) : IsS119 w0 (W.setCell p u) g f0 f1 := by
 obtain ⟨hb, hg⟩ := h
 exact ⟨blk_far hb hne u, hg⟩
theorem cellS119_0 {W : World} {g : Nat} {f0 : ByteArray} {f1 : Bool} (h : W.heap[g]? = some (.cells #[.string f0, .bool f1] 119 (0, 0))) : W.cell? ⟨g, 0, none⟩ = some (.string f0) := (kce h 0).trans rfl
theorem IsS119.set_0 {w0 W : World} {g : Nat} {f0 : ByteArray} {f1 : Bool} (h : IsS119 w0 W g f0 f1) (x : ByteArray) : IsS119 w0 (W.setCell ⟨g, 0, none⟩ (.string x)) g x f1 := by
 obtain ⟨hb, hg⟩ := h
 exact ⟨by simpa using blk_set hb 0 (.string x), hg⟩
theorem cellS119_1 {W : World} {g : Nat} {f0 : ByteArray} {f1 : Bool} (h : W.heap[g]? = some (.cells #[.string f0, .bool f1] 119 (0, 0))) : W.cell? ⟨g, 1, none⟩ = some (.bool f1) := (kce h 1).trans rfl
theorem IsS119.set_1 {w0 W : World} {g : Nat} {f0 : ByteArray} {f1 : Bool} (h : IsS119 w0 W g f0 f1) (x : Bool) : IsS119 w0 (W.setCell ⟨g, 1, none⟩ (.bool x)) g f0 x := by
 obtain ⟨hb, hg⟩ := h
 exact ⟨by simpa using blk_set hb 1 (.bool x), hg⟩
theorem IsS119.new (w0 W : World) (f0 : ByteArray) (f1 : Bool) (hB : Below w0.heap.size w0 W) : IsS119 w0 (W.alloc (.cells #[.string f0, .bool f1] 119)) W.heap.size f0 f1 := ⟨by simpa using heap_alloc_new W _, hB.size⟩

/-! ### impl_binary_number: function 92 -/
def impl_binary_number.f (k : Nat) (s0_0 : ByteArray) (s0_1 : Bool) : Option (Int × ByteArray × Bool) := (impl_GetVar.f k s0_0).bind fun bt125 => (if bt125.2.2 = true then (if 0 ≤ bt125.2.1 then (if bt125.2.1 ≤ (s0_0.size : Int) then (some (bt125.1, s0_0.extract (bt125.2.1 : Int).toNat s0_0.size, s0_1)) else (none)) else (none)) else (if 0 ≤ bt125.2.1 then (if bt125.2.1 ≤ (s0_0.size : Int) then (some (bt125.1, s0_0.extract (bt125.2.1 : Int).toNat s0_0.size, true)) else (none)) else (none)))
theorem impl_binary_number.mono : ∀ a0 a1 k, LeO (impl_binary_number.f k a0 a1) (impl_binary_number.f (k + 1) a0 a1) := by
 intro a0 a1 k
 unfold impl_binary_number.f
 repeat' first
   | (with_reducible exact impl_GetVar.mono _ _)
   | (with_reducible exact LeO.refl _)
   | (with_reducible exact LeO.none _)
   | (with_reducible refine LeO.ite ?_ ?_)
   | (with_reducible refine LeO.bind ?_ (fun _ => ?_))
   | exact impl_GetVar.mono _ _
   | exact LeO.none _
   | refine LeO.ite ?_ ?_
   | refine LeO.bind ?_ (fun _ => ?_)
set_option maxHeartbeats 8000000 in
set_option maxRecDepth 100000 in
theorem impl_binary_number.calls (k : Nat) (g : Nat) (s0_0 : ByteArray) (s0_1 : Bool) (r1 : Int) (r2 : ByteArray) (r3 : Bool) (w0 w : World) (hI : IsS119 w0 w g s0_0 s0_1) (hB : Below w0.heap.size w0 w) (h : impl_binary_number.f k s0_0 s0_1 = some (r1, r2, r3)) :
  Calls Try.prog 92 #[.pointer (some ⟨g, 0, none⟩)] w fun e w' => e = .returned (.int .i64 r1) ∧ IsS119 w0 w' g r2 r3 ∧ Below w0.heap.size w0 w' ∧ KeepBut w w' g none := by
 have HI0 := am hI
 have HK := am (KeepBut.refl w g none)
 have HL := am hB.size
 clear hI
 have HW0 := am hB.size
 have HB := am hB
 clear hB
 have H : ((impl_GetVar.f k s0_0).bind fun bt125 => (if bt125.2.2 = true then (if 0 ≤ bt125.2.1 then (if bt125.2.1 ≤ (s0_0.size : Int) then (some (bt125.1, s0_0.extract (bt125.2.1 : Int).toNat s0_0.size, s0_1)) else (none)) else (none)) else (if 0 ≤ bt125.2.1 then (if bt125.2.1 ≤ (s0_0.size : Int) then (some (bt125.1, s0_0.extract (bt125.2.1 : Int).toNat s0_0.size, true)) else (none)) else (none)))) = some (r1, r2, r3) := h
 clear h
 replace H := Option.bind_eq_some_iff.mp H
 obtain ⟨⟨t125, t126, t127⟩, A20, H⟩ := H
 replace H : (if t127 = true then (if 0 ≤ t126 then (if t126 ≤ (s0_0.size : Int) then (some (t125, s0_0.extract (t126 : Int).toNat s0_0.size, s0_1)) else (none)) else (none)) else (if 0 ≤ t126 then (if t126 ≤ (s0_0.size : Int) then (some (t125, s0_0.extract (t126 : Int).toNat s0_0.size, true)) else (none)) else (none))) = some (r1, r2, r3) := H
 have A2 := am A20
 clear A20
 by_cases c3 : t127 = true
 ·subst c3
  have H1 : (if 0 ≤ t126 then (if t126 ≤ (s0_0.size : Int) then (some (t125, s0_0.extract (t126 : Int).toNat s0_0.size, s0_1)) else (none)) else (none)) = some (r1, r2, r3) := by rw [if_pos rfl] at H; exact H
  clear H
  have H := H1
  clear H1
  by_cases c4 : 0 ≤ t126
  ·rw [if_pos c4] at H
   have c4b0 := eq_true c4
   have c4b1 : decide (0 ≤ t126) = true := decide_eq_true c4
   clear c4
   by_cases c5 : t126 ≤ (s0_0.size : Int)
   ·rw [if_pos c5] at H
    have c5b0 := eq_true c5
    have c5b1 : decide (t126 ≤ (s0_0.size : Int)) = true := decide_eq_true c5
    clear c5
    simp only [Option.some.injEq, Prod.mk.injEq] at H
    obtain ⟨rfl, rfl, rfl⟩ := H
    obtain ⟨HGz6, hgz6⟩ := HI0.out
    have hcz6_0 := cellS119_0 HGz6
    have hcz6_1 := cellS119_1 HGz6
    have hfz6_0 := kfr HGz6 0
    have hfz6_1 := kfr HGz6 1
    clear HGz6 hgz6
    go_enter Try.func92, Try.ntmps92
    go_wp2_with (first | ((with_reducible refine gate_callee (f := 120) rfl ?_); refine goesL_ (some 11) rfl rfl Try.func120 (by kernel_rfl) rfl #[.string s0_0] rfl (by (try simp only [mta, mco, mni]); first | done | rfl | (simp only [lnd, lnt]; rfl)) ?_; (with_reducible refine (impl_GetVar.calls k s0_0 t125 t126 true _ A2.out).mono ?_); rintro e w' ⟨rfl, ⟨nd, rfl⟩⟩; refine ⟨_, rfl, ?_⟩; (try (rw [drewN_self w]; generalize hq_ : World.drewN w _ = w; have n0_ := am (IsS119.at_ hq_ HI0.out); have n1_ := am (keep_at hq_ HK.out); have n2_ := am (below_at hq_ HB.out); clear hq_ HI0 HK HB; have HI0 := n0_; have HK := n1_; have HB := n2_; clear n0_ n1_ n2_; (try (obtain ⟨HGqHI0, _⟩ := HI0.out)); (try (have hcqHI0_0 := cellS119_0 HGqHI0)); (try (have hfqHI0_0 := kfr HGqHI0 0)); (try (have hcqHI0_1 := cellS119_1 HGqHI0)); (try (have hfqHI0_1 := kfr HGqHI0 1)); (try (clear HGqHI0))))))
    go_ret
    exact ⟨by first | rfl | (simp [errW_none, errW_some] <;> rfl) | (simp [*, errW_none, errW_some] <;> rfl), by repeat (first | (with_reducible first | exact HI0.out | apply IsS119.alloc | apply IsS119.drewN | apply IsS119.drew | apply IsS119.set_0 | apply IsS119.set_1) | exact HI0.out), by repeat (first | (with_reducible first | exact HB.out | apply bal | apply pdn | apply bd1 | refine bst ?_ (IsS119.ge HI0.out)) | exact HB.out), by repeat (first | (with_reducible first | exact HK.out | apply KeepBut.set_ | apply keep_drewN | apply keep_drew | apply keep_alloc) | exact HK.out)⟩
   ·rw [if_neg c5] at H
    exact absurd H (by simp)
  ·rw [if_neg c4] at H
   exact absurd H (by simp)
 ·replace c3 := Bool.eq_false_iff.mpr c3
  subst c3
  have H1 : (if 0 ≤ t126 then (if t126 ≤ (s0_0.size : Int) then (some (t125, s0_0.extract (t126 : Int).toNat s0_0.size, true)) else (none)) else (none)) = some (r1, r2, r3) := by rw [if_neg (show ¬ (false = true) by decide)] at H; exact H
  clear H
  have H := H1
  clear H1
  by_cases c7 : 0 ≤ t126
  ·rw [if_pos c7] at H
   have c7b0 := eq_true c7
   have c7b1 : decide (0 ≤ t126) = true := decide_eq_true c7
   clear c7
   by_cases c8 : t126 ≤ (s0_0.size : Int)
   ·rw [if_pos c8] at H
    have c8b0 := eq_true c8
    have c8b1 : decide (t126 ≤ (s0_0.size : Int)) = true := decide_eq_true c8
    clear c8
    simp only [Option.some.injEq, Prod.mk.injEq] at H
    obtain ⟨rfl, rfl, rfl⟩ := H
    obtain ⟨HGz9, hgz9⟩ := HI0.out
    have hcz9_0 := cellS119_0 HGz9
    have hcz9_1 := cellS119_1 HGz9
    have hfz9_0 := kfr HGz9 0
    have hfz9_1 := kfr HGz9 1
    clear HGz9 hgz9
    go_enter Try.func92, Try.ntmps92
    go_wp2_with (first | ((with_reducible refine gate_callee (f := 120) rfl ?_); refine goesL_ (some 11) rfl rfl Try.func120 (by kernel_rfl) rfl #[.string s0_0] rfl (by (try simp only [mta, mco, mni]); first | done | rfl | (simp only [lnd, lnt]; rfl)) ?_; (with_reducible refine (impl_GetVar.calls k s0_0 t125 t126 false _ A2.out).mono ?_); rintro e w' ⟨rfl, ⟨nd, rfl⟩⟩; refine ⟨_, rfl, ?_⟩; (try (rw [drewN_self w]; generalize hq_ : World.drewN w _ = w; have n0_ := am (IsS119.at_ hq_ HI0.out); have n1_ := am (keep_at hq_ HK.out); have n2_ := am (below_at hq_ HB.out); clear hq_ HI0 HK HB; have HI0 := n0_; have HK := n1_; have HB := n2_; clear n0_ n1_ n2_; (try (obtain ⟨HGqHI0, _⟩ := HI0.out)); (try (have hcqHI0_0 := cellS119_0 HGqHI0)); (try (have hfqHI0_0 := kfr HGqHI0 0)); (try (have hcqHI0_1 := cellS119_1 HGqHI0)); (try (have hfqHI0_1 := kfr HGqHI0 1)); (try (clear HGqHI0))))))
    go_ret
    exact ⟨by first | rfl | (simp [errW_none, errW_some] <;> rfl) | (simp [*, errW_none, errW_some] <;> rfl), by repeat (first | (with_reducible first | exact HI0.out | apply IsS119.alloc | apply IsS119.drewN | apply IsS119.drew | apply IsS119.set_0 | apply IsS119.set_1) | exact HI0.out), by repeat (first | (with_reducible first | exact HB.out | apply bal | apply pdn | apply bd1 | refine bst ?_ (IsS119.ge HI0.out)) | exact HB.out), by repeat (first | (with_reducible first | exact HK.out | apply KeepBut.set_ | apply keep_drewN | apply keep_drew | apply keep_alloc) | exact HK.out)⟩
   ·rw [if_neg c8] at H
    exact absurd H (by simp)
  ·rw [if_neg c7] at H
   exact absurd H (by simp)

/-! ### impl_GetText: function 121 -/
def impl_GetText.f (k : Nat) (a0 : ByteArray) : Option (ByteArray × Int × Bool) := (impl_GetVar.f k a0).bind fun bt128 => (if bt128.2.2 = true then (if bt128.1 > (wrap64 ((a0.size : Int) - bt128.2.1)) then (some ((⟨#[]⟩ : ByteArray), 0, false)) else (if 0 ≤ bt128.2.1 then (if bt128.2.1 ≤ (wrap64 (bt128.2.1 + bt128.1)) then (if (wrap64 (bt128.2.1 + bt128.1)) ≤ (a0.size : Int) then (some (a0.extract (bt128.2.1 : Int).toNat ((wrap64 (bt128.2.1 + bt128.1)) : Int).toNat, wrap64 (bt128.2.1 + bt128.1), true)) else (none)) else (none)) else (none))) else (some ((⟨#[]⟩ : ByteArray), 0, false)))
theorem impl_GetText.mono : ∀ a0 k, LeO (impl_GetText.f k a0) (impl_GetText.f (k + 1) a0) := by
 intro a0 k
 unfold impl_GetText.f
 repeat' first
   | (with_reducible exact impl_GetVar.mono _ _)
   | (with_reducible exact LeO.refl _)
   | (with_reducible exact LeO.none _)
   | (with_reducible refine LeO.ite ?_ ?_)
   | (with_reducible refine LeO.bind ?_ (fun _ => ?_))
   | exact impl_GetVar.mono _ _
   | exact LeO.none _
   | refine LeO.ite ?_ ?_
   | refine LeO.bind ?_ (fun _ => ?_)
set_option maxHeartbeats 8000000 in
set_option maxRecDepth 100000 in
theorem impl_GetText.calls (k : Nat) (a0 : ByteArray) (r1 : ByteArray) (r2 : Int) (r3 : Bool) (w : World) (h : impl_GetText.f k a0 = some (r1, r2, r3)) :
  Calls Try.prog 121 #[.string a0] w fun e w' => e = .returned (.tuple #[.string r1, .int .i64 r2, .bool r3]) ∧ Drawn0 w w' := by
 have H : ((impl_GetVar.f k a0).bind fun bt128 => (if bt128.2.2 = true then (if bt128.1 > (wrap64 ((a0.size : Int) - bt128.2.1)) then (some ((⟨#[]⟩ : ByteArray), 0, false)) else (if 0 ≤ bt128.2.1 then (if bt128.2.1 ≤ (wrap64 (bt128.2.1 + bt128.1)) then (if (wrap64 (bt128.2.1 + bt128.1)) ≤ (a0.size : Int) then (some (a0.extract (bt128.2.1 : Int).toNat ((wrap64 (bt128.2.1 + bt128.1)) : Int).toNat, wrap64 (bt128.2.1 + bt128.1), true)) else (none)) else (none)) else (none))) else (some ((⟨#[]⟩ : ByteArray), 0, false)))) = some (r1, r2, r3) := h
 clear h
 replace H := Option.bind_eq_some_iff.mp H
 obtain ⟨⟨t128, t129, t130⟩, A20, H⟩ := H
 replace H : (if t130 = true then (if t128 > (wrap64 ((a0.size : Int) - t129)) then (some ((⟨#[]⟩ : ByteArray), 0, false)) else (if 0 ≤ t129 then (if t129 ≤ (wrap64 (t129 + t128)) then (if (wrap64 (t129 + t128)) ≤ (a0.size : Int) then (some (a0.extract (t129 : Int).toNat ((wrap64 (t129 + t128)) : Int).toNat, wrap64 (t129 + t128), true)) else (none)) else (none)) else (none))) else (some ((⟨#[]⟩ : ByteArray), 0, false))) = some (r1, r2, r3) := H
 have A2 := am A20
 clear A20
 by_cases c3 : t130 = true
 ·subst c3
  have H1 : (if t128 > (wrap64 ((a0.size : Int) - t129)) then (some ((⟨#[]⟩ : ByteArray), 0, false)) else (if 0 ≤ t129 then (if t129 ≤ (wrap64 (t129 + t128)) then (if (wrap64 (t129 + t128)) ≤ (a0.size : Int) then (some (a0.extract (t129 : Int).toNat ((wrap64 (t129 + t128)) : Int).toNat, wrap64 (t129 + t128), true)) else (none)) else (none)) else (none))) = some (r1, r2, r3) := by rw [if_pos rfl] at H; exact H
  clear H
  have H := H1
  clear H1
  by_cases c4 : t128 > (wrap64 ((a0.size : Int) - t129))
  ·rw [if_pos c4] at H
   have c4b0 : decide ((wrap64 ((a0.size : Int) - t129)) < t128) = true := decide_eq_true c4
   clear c4
   simp only [Option.some.injEq, Prod.mk.injEq] at H
   obtain ⟨rfl, rfl, rfl⟩ := H
   go_enter Try.func121, Try.ntmps121
   go_wp2_with (first | ((with_reducible refine gate_callee (f := 120) rfl ?_); refine goesL_ (some 10) rfl rfl Try.func120 (by kernel_rfl) rfl #[.string a0] rfl (by (try simp only [mta, mco, mni]); first | done | rfl | (simp only [lnd, lnt]; rfl)) ?_; (with_reducible refine (impl_GetVar.calls k a0 t128 t129 true _ A2.out).mono ?_); rintro e w' ⟨rfl, ⟨nd, rfl⟩⟩; refine ⟨_, rfl, ?_⟩))
   go_ret3
   exact ⟨by first | rfl | (simp; done) | (simp [*]; done), by repeat (first | exact Drawn0.refl _ | apply Drawn0.step)⟩
  ·rw [if_neg c4] at H
   have c4b0 : decide ((wrap64 ((a0.size : Int) - t129)) < t128) = false := decide_eq_false c4
   clear c4
   by_cases c5 : 0 ≤ t129
   ·rw [if_pos c5] at H
    have c5b0 := eq_true c5
    have c5b1 : decide (0 ≤ t129) = true := decide_eq_true c5
    clear c5
    by_cases c6 : t129 ≤ (wrap64 (t129 + t128))
    ·rw [if_pos c6] at H
     have c6b0 := eq_true c6
     have c6b1 : decide (t129 ≤ (wrap64 (t129 + t128))) = true := decide_eq_true c6
     by_cases c7 : (wrap64 (t129 + t128)) ≤ (a0.size : Int)
     ·rw [if_pos c7] at H
      have c7b0 := eq_true c7
      have c7b1 : decide ((wrap64 (t129 + t128)) ≤ (a0.size : Int)) = true := decide_eq_true c7
      simp only [Option.some.injEq, Prod.mk.injEq] at H
      obtain ⟨rfl, rfl, rfl⟩ := H
      go_enter Try.func121, Try.ntmps121
      go_wp2_with (first | ((with_reducible refine gate_callee (f := 120) rfl ?_); refine goesL_ (some 10) rfl rfl Try.func120 (by kernel_rfl) rfl #[.string a0] rfl (by (try simp only [mta, mco, mni]); first | done | rfl | (simp only [lnd, lnt]; rfl)) ?_; (with_reducible refine (impl_GetVar.calls k a0 t128 t129 true _ A2.out).mono ?_); rintro e w' ⟨rfl, ⟨nd, rfl⟩⟩; refine ⟨_, rfl, ?_⟩))
      go_ret3
      exact ⟨by first | rfl | (simp; done) | (simp [*]; done), by repeat (first | exact Drawn0.refl _ | apply Drawn0.step)⟩
     ·rw [if_neg c7] at H
      exact absurd H (by simp)
    ·rw [if_neg c6] at H
     exact absurd H (by simp)
   ·rw [if_neg c5] at H
    exact absurd H (by simp)
 ·replace c3 := Bool.eq_false_iff.mpr c3
  subst c3
  have H1 : (some ((⟨#[]⟩ : ByteArray), 0, false)) = some (r1, r2, r3) := by rw [if_neg (show ¬ (false = true) by decide)] at H; exact H
  clear H
  have H := H1
  clear H1
  simp only [Option.some.injEq, Prod.mk.injEq] at H
  obtain ⟨rfl, rfl, rfl⟩ := H
  go_enter Try.func121, Try.ntmps121
  go_wp2_with (first | ((with_reducible refine gate_callee (f := 120) rfl ?_); refine goesL_ (some 10) rfl rfl Try.func120 (by kernel_rfl) rfl #[.string a0] rfl (by (try simp only [mta, mco, mni]); first | done | rfl | (simp only [lnd, lnt]; rfl)) ?_; (with_reducible refine (impl_GetVar.calls k a0 t128 t129 false _ A2.out).mono ?_); rintro e w' ⟨rfl, ⟨nd, rfl⟩⟩; refine ⟨_, rfl, ?_⟩))
  go_ret3
  exact ⟨by first | rfl | (simp; done) | (simp [*]; done), by repeat (first | exact Drawn0.refl _ | apply Drawn0.step)⟩

end Go.Proofs.Ythphhklbliambaa.MFnOps
