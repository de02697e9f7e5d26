-- Written by a program of this session (wip/tools/myprint.py) over the kit's print: it is not the kit's print.
import Derived.Test.YtmpakjgbbjkacaaExtra
import Derived.Lib.Agree
import Derived.Ground.NamesProg
import Derived.Shelf.Lay
import Derived.Shelf.Strings.Builder1
import Derived.Test.YtmpakjgbbjkacaaMFnExactReadWidex0
import Derived.Test.YtmpakjgbbjkacaaMFnExactReadWidex3
import Derived.Test.YtmpakjgbbjkacaaMFnExactReadWidex4
namespace Go.Proofs.Ytmpakjgbbjkacaa.MFnExactReadWide
open Go.RowKit Go.Proofs.YtmpakjgbbjkacaaW.PrintWords Go.Proofs.YtmpakjgbbjkacaaW.PrintLast Go.Proofs.YtmpakjgbbjkacaaW.PrintMore
open List renaming setIfInBounds_toArray → sit, set_cons_zero → scz, set_cons_succ → scs, map_toArray → mta, map_cons → mco, map_nil → mni, length_drop → lnd, length_take → lnt
open World renaming block_lt_of_cell? → blc
attribute [local go_sem] max2_int min2_int max_two min_two max_three min_three max_four min_four   -- for this text's walks alone
set_option linter.unusedVariables false
set_option linter.unusedSimpArgs false

/-! ### impl_Wide_cell: function 76 -/
def impl_Wide_cell.f (a0_0 : Int) (a0_1 : Int) (a0_2 : Int) (a0_3 : Int) (l0_4 : List ByteArray) (a1 : Int) : Option (Int × Int) := (impl_Wide_stripe.f a0_0 a0_1 a0_2 a0_3 l0_4).bind fun t163 => (if t163 = 0 then (none) else (if a0_2 = 0 then (none) else ((impl_Wide_stripe.f a0_0 a0_1 a0_2 a0_3 l0_4).bind fun t164 => (if t164 = 0 then (none) else (some (wrap64 (Int.tdiv (Int.tmod a1 t163) a0_2), wrap64 ((wrap64 ((wrap64 (Int.tdiv a1 t164)) * a0_2)) + (Int.tmod a1 a0_2))))))))
def impl_Wide_cell.T1 : Bool × List (List Nat × List Nat) := (true, [([], []), ([], []), ([1], [1]), ([0, 2], [0, 2]), ([], []), ([4], [4]), ([3, 5], [3, 5]), ([], []), ([], []), ([8, 2], [8]), ([7, 9], [7, 9]), ([], []), ([11], [11]), ([10, 12], [10, 12]), ([], []), ([], []), ([15], [15]), ([14, 16], [14, 16]), ([13, 17], [13, 17]), ([6, 9, 0, 1, 2, 3, 4, 5, 6], [6]), ([18, 19, 0, 1, 2, 3, 4, 5, 6, 7, 8, 9, 10, 11, 12, 13, 14, 15, 16, 17, 18, 19], [18])])
def impl_Wide_cell.B1 : List Nat := [0, 0, 2, 7, 0, 16, 63, 0, 0, 262, 902, 0, 2048, 8070, 0, 0, 32768, 114688, 262022, 895, 1048575]
theorem impl_Wide_cell.tab1 : rtab .any (opsOf Try.f76 1) = impl_Wide_cell.T1 := by kernel_rfl
theorem impl_Wide_cell.bits1 : waitsOk impl_Wide_cell.T1.2 impl_Wide_cell.B1 = true := by kernel_rfl
set_option maxHeartbeats 8000000 in
set_option maxRecDepth 100000 in
theorem impl_Wide_cell.calls (a0_0 : Int) (a0_1 : Int) (a0_2 : Int) (a0_3 : Int) (A0_4 : Option Addr) (c0_4 : Nat) (l0_4 : List ByteArray) (a1 : Int) (r1 : Int) (r2 : Int) (w : World) (hr0_4 : Kd.C Kd.string w A0_4 l0_4.length l0_4) (hc0_4 : l0_4.length ≤ c0_4) (h : impl_Wide_cell.f a0_0 a0_1 a0_2 a0_3 l0_4 a1 = some (r1, r2)) :
  Calls Try.prog 76 #[.agg #[.int .i64 a0_0, .int .i64 a0_1, .int .i64 a0_2, .int .i64 a0_3, .slice A0_4 l0_4.length c0_4], .int .i64 a1] w fun e w' => e = .returned (.tuple #[.int .i64 r1, .int .i64 r2]) ∧ Below w.heap.size w w' := by
 have hu32 := Try.underlying32
 have HR0_4 := am hr0_4
 have HC0_4 := am hc0_4
 clear hr0_4 hc0_4
 have HB := am (Below.refl w.heap.size w)
 have H : ((impl_Wide_stripe.f a0_0 a0_1 a0_2 a0_3 l0_4).bind fun t163 => (if t163 = 0 then (none) else (if a0_2 = 0 then (none) else ((impl_Wide_stripe.f a0_0 a0_1 a0_2 a0_3 l0_4).bind fun t164 => (if t164 = 0 then (none) else (some (wrap64 (Int.tdiv (Int.tmod a1 t163) a0_2), wrap64 ((wrap64 ((wrap64 (Int.tdiv a1 t164)) * a0_2)) + (Int.tmod a1 a0_2))))))))) = some (r1, r2) := h
 clear h
 replace H := Option.bind_eq_some_iff.mp H
 obtain ⟨t163, A30, H⟩ := H
 replace H : (if t163 = 0 then (none) else (if a0_2 = 0 then (none) else ((impl_Wide_stripe.f a0_0 a0_1 a0_2 a0_3 l0_4).bind fun t164 => (if t164 = 0 then (none) else (some (wrap64 (Int.tdiv (Int.tmod a1 t163) a0_2), wrap64 ((wrap64 ((wrap64 (Int.tdiv a1 t164)) * a0_2)) + (Int.tmod a1 a0_2)))))))) = some (r1, r2) := H
 have A3 := am A30
 clear A30
 by_cases c4 : t163 = 0
 ·rw [if_pos c4] at H
  exact absurd H (by simp)
 ·rw [if_neg c4] at H
  have c4b0 : (t163 == 0) = false := beq_eq_false_iff_ne.mpr c4
  have c4b1 : (t163 != 0) = true := bne_iff_ne.mpr c4
  by_cases c5 : a0_2 = 0
  ·rw [if_pos c5] at H
   exact absurd H (by simp)
  ·rw [if_neg c5] at H
   have c5b0 : (a0_2 == 0) = false := beq_eq_false_iff_ne.mpr c5
   have c5b1 : (a0_2 != 0) = true := bne_iff_ne.mpr c5
   replace H := Option.bind_eq_some_iff.mp H
   obtain ⟨t164, A60, H⟩ := H
   replace H : (if t164 = 0 then (none) else (some (wrap64 (Int.tdiv (Int.tmod a1 t163) a0_2), wrap64 ((wrap64 ((wrap64 (Int.tdiv a1 t164)) * a0_2)) + (Int.tmod a1 a0_2))))) = some (r1, r2) := H
   have A6 := am A60
   clear A60
   by_cases c7 : t164 = 0
   ·rw [if_pos c7] at H
    exact absurd H (by simp)
   ·rw [if_neg c7] at H
    have c7b0 : (t164 == 0) = false := beq_eq_false_iff_ne.mpr c7
    have c7b1 : (t164 != 0) = true := bne_iff_ne.mpr c7
    simp only [Option.some.injEq, Prod.mk.injEq] at H
    obtain ⟨rfl, rfl⟩ := H
    go_enter Try.func76, Try.ntmps76
    try go_wp2_with (first | ((with_reducible refine gate_dst (N := 2) rfl ?_); refine box_event ?hg (N := 2) ?hd (cs := #[.int .i64 a0_0, .int .i64 a0_1, .int .i64 a0_2, .int .i64 a0_3, .slice A0_4 l0_4.length c0_4]) (t := 32) ?hr ?_; (case hd => rfl); (case hg => rfl); (case hr => first | (go_simp; done) | (go_simp; rfl)); intro gb162 hg w8 hbox hb; have n0_ := am (below_step (by repeat (first | (with_reducible first | exact HB.out | apply bal | apply pdn | apply bd1) | exact HB.out)) hb); have n1_ := am (hbox); have n2_ := am ((by rw [hg]; exact (below_size (by repeat (first | (with_reducible first | exact HB.out | apply bal | apply pdn | apply bd1) | exact HB.out))) : w.heap.size ≤ gb162)); have n3_ := am ((by rw [hg]; exact (below_size (by repeat (first | (with_reducible first | exact HB.out | apply bal | apply pdn | apply bd1) | exact HB.out))) : w.heap.size ≤ gb162)); clear HB; have HB := n0_; have BK162 := n1_; have GW162 := n2_; have GE162 := n3_; clear n0_ n1_ n2_ n3_; clear hb hbox hg))
    have n0_ := am (kdr BK162.out)
    have n1_ := am (bd1 HB.out)
    clear BK162
    clear HB
    have BK162 := n0_
    have HB := n1_
    clear n0_ n1_
    refine start_ (n := 21) (S := fun w' => w'.cell? ⟨gb162, 0, none⟩ = some (.int .i64 a0_0) ∧ w'.cell? ⟨gb162, 1, none⟩ = some (.int .i64 a0_1) ∧ w'.cell? ⟨gb162, 2, none⟩ = some (.int .i64 a0_2) ∧ w'.cell? ⟨gb162, 3, none⟩ = some (.int .i64 a0_3) ∧ w'.cell? ⟨gb162, 4, none⟩ = some (.slice A0_4 l0_4.length c0_4)) (ds := []) #[false, false, false, false, false, false, false, false, false, false, false, false, false, false, false, false, false, false, false, false, false] (by kernel_rfl) rfl rfl ⟨(kce BK162.out 0).trans rfl, (kce BK162.out 1).trans rfl, (kce BK162.out 2).trans rfl, (kce BK162.out 3).trans rfl, (kce BK162.out 4).trans rfl⟩ (fun hHeld => ?_); refine with_tabW impl_Wide_cell.tab1 impl_Wide_cell.bits1 (fun HT_ HW_ => ?_)
    generalize w8.drew = w9 at BK162 HB hHeld ⊢
    refine pure_ (i := 0) (N := some 6) (v := ?_) (a' := ?_) #[true, false, false, false, false, false, false, false, false, false, false, false, false, false, false, false, false, false, false, false, false] rfl rfl (any_of HT_.out (by kernel_rfl)) (fun _ _ _ h => h) (Or.inl ⟨by rfl, ?_⟩) ?_ ?_
    rotate_left
    ·intro w'
     go_simp
     with_reducible rfl
    rotate_left
    ·simp only [Act.put, sit, scz, scs, i64_w, i32_w]
     rfl
    refine pure_ (i := 4) (N := some 10) (v := ?_) (a' := ?_) #[true, false, false, false, true, false, false, false, false, false, false, false, false, false, false, false, false, false, false, false, false] rfl rfl (any_of HT_.out (by kernel_rfl)) (fun _ _ _ h => h) (Or.inl ⟨by rfl, ?_⟩) ?_ ?_
    rotate_left
    ·intro w'
     go_simp
     with_reducible rfl
    rotate_left
    ·simp only [Act.put, sit, scz, scs, i64_w, i32_w]
     rfl
    refine pure_ (i := 7) (N := some 13) (v := ?_) (a' := ?_) #[true, false, false, false, true, false, false, true, false, false, false, false, false, false, false, false, false, false, false, false, false] rfl rfl (any_of HT_.out (by kernel_rfl)) (fun _ _ _ h => h) (Or.inl ⟨by rfl, ?_⟩) ?_ ?_
    rotate_left
    ·intro w'
     go_simp
     with_reducible rfl
    rotate_left
    ·simp only [Act.put, sit, scz, scs, i64_w, i32_w]
     rfl
    refine pure_ (i := 11) (N := some 17) (v := ?_) (a' := ?_) #[true, false, false, false, true, false, false, true, false, false, false, true, false, false, false, false, false, false, false, false, false] rfl rfl (any_of HT_.out (by kernel_rfl)) (fun _ _ _ h => h) (Or.inl ⟨by rfl, ?_⟩) ?_ ?_
    rotate_left
    ·intro w'
     go_simp
     with_reducible rfl
    rotate_left
    ·simp only [Act.put, sit, scz, scs, i64_w, i32_w]
     rfl
    refine pure_ (i := 14) (N := some 20) (v := ?_) (a' := ?_) #[true, false, false, false, true, false, false, true, false, false, false, true, false, false, true, false, false, false, false, false, false] rfl rfl (any_of HT_.out (by kernel_rfl)) (fun _ _ _ h => h) (Or.inl ⟨by rfl, ?_⟩) ?_ ?_
    rotate_left
    ·intro w'
     go_simp
     with_reducible rfl
    rotate_left
    ·simp only [Act.put, sit, scz, scs, i64_w, i32_w]
     rfl
    refine pure_ (i := 15) (N := some 21) (v := ?_) (a' := ?_) #[true, false, false, false, true, false, false, true, false, false, false, true, false, false, true, true, false, false, false, false, false] rfl rfl (any_of HT_.out (by kernel_rfl)) (fun _ _ _ h => h) (Or.inl ⟨by rfl, ?_⟩) ?_ ?_
    rotate_left
    ·intro w'
     go_simp
     with_reducible rfl
    rotate_left
    ·simp only [Act.put, sit, scz, scs, i64_w, i32_w]
     rfl
    refine take_ (i := 1) (N := some 7) (v := ?_) (a' := ?_) #[true, true, false, false, true, false, false, true, false, false, false, true, false, false, true, true, false, false, false, false, false] rfl rfl (take_ofW HT_.out HW_.out (by kernel_rfl)) (fun _ _ _ h => h) (Or.inl ⟨by rfl, ?_⟩) hHeld ?_ ?_
    rotate_left
    ·rintro w' ⟨s0, s1, s2, s3, s4⟩
     go_simp
     with_reducible rfl
    rotate_left
    ·simp only [Act.put, sit, scz, scs, i64_w, i32_w]
     rfl
    refine take_ (i := 5) (N := some 11) (v := ?_) (a' := ?_) #[true, true, false, false, true, true, false, true, false, false, false, true, false, false, true, true, false, false, false, false, false] rfl rfl (take_ofW HT_.out HW_.out (by kernel_rfl)) (fun _ _ _ h => h) (Or.inl ⟨by rfl, ?_⟩) hHeld ?_ ?_
    rotate_left
    ·rintro w' ⟨s0, s1, s2, s3, s4⟩
     go_simp
     with_reducible rfl
    rotate_left
    ·simp only [Act.put, sit, scz, scs, i64_w, i32_w]
     rfl
    refine take_ (i := 8) (N := some 14) (v := ?_) (a' := ?_) #[true, true, false, false, true, true, false, true, true, false, false, true, false, false, true, true, false, false, false, false, false] rfl rfl (take_ofW HT_.out HW_.out (by kernel_rfl)) (fun _ _ _ h => h) (Or.inl ⟨by rfl, ?_⟩) hHeld ?_ ?_
    rotate_left
    ·rintro w' ⟨s0, s1, s2, s3, s4⟩
     go_simp
     with_reducible rfl
    rotate_left
    ·simp only [Act.put, sit, scz, scs, i64_w, i32_w]
     rfl
    refine take_ (i := 12) (N := some 18) (v := ?_) (a' := ?_) #[true, true, false, false, true, true, false, true, true, false, false, true, true, false, true, true, false, false, false, false, false] rfl rfl (take_ofW HT_.out HW_.out (by kernel_rfl)) (fun _ _ _ h => h) (Or.inl ⟨by rfl, ?_⟩) hHeld ?_ ?_
    rotate_left
    ·rintro w' ⟨s0, s1, s2, s3, s4⟩
     go_simp
     with_reducible rfl
    rotate_left
    ·simp only [Act.put, sit, scz, scs, i64_w, i32_w]
     rfl
    refine take_ (i := 16) (N := some 22) (v := ?_) (a' := ?_) #[true, true, false, false, true, true, false, true, true, false, false, true, true, false, true, true, true, false, false, false, false] rfl rfl (take_ofW HT_.out HW_.out (by kernel_rfl)) (fun _ _ _ h => h) (Or.inl ⟨by rfl, ?_⟩) hHeld ?_ ?_
    rotate_left
    ·rintro w' ⟨s0, s1, s2, s3, s4⟩
     go_simp
     with_reducible rfl
    rotate_left
    ·simp only [Act.put, sit, scz, scs, i64_w, i32_w]
     rfl
    refine pure_ (i := 17) (N := some 23) (v := ?_) (a' := ?_) #[true, true, false, false, true, true, false, true, true, false, false, true, true, false, true, true, true, true, false, false, false] rfl rfl (any_of HT_.out (by kernel_rfl)) (fun _ _ _ h => h) (Or.inl ⟨by rfl, ?_⟩) ?_ ?_
    rotate_left
    ·intro w'
     go_simp
     with_reducible rfl
    rotate_left
    ·simp only [Act.put, sit, scz, scs, i64_w, i32_w]
     rfl
    refine one_ (i := 2) (N := some 8) #[true, true, true, false, true, true, false, true, true, false, false, true, true, false, true, true, true, true, false, false, false] rfl rfl (one_of HT_.out (by kernel_rfl)) (by decide) (fun K hK => ?_)
    refine goes_ Try.func80 (by kernel_rfl) rfl #[.agg #[.int .i64 a0_0, .int .i64 a0_1, .int .i64 a0_2, .int .i64 a0_3, .slice A0_4 l0_4.length c0_4]] (by rfl) rfl rfl (by (try simp only [mta, mco, mni]); first | done | rfl | (simp only [lnd, lnt]; rfl)) ?_
    with_reducible refine (impl_Wide_stripe.calls a0_0 a0_1 a0_2 a0_3 _ _ l0_4 t163 _ ?side1 ?side2 A3.out).mono ?_
    (case side1 => repeat (first | exact (Kd.C_below HR0_4.out HB.out) | (with_reducible first | apply kca | apply kcn | apply kcd)))
    (case side2 => exact HC0_4.out)
    rintro e w10 ⟨rfl, hb⟩
    refine ⟨_, rfl, ?_⟩
    have n0_ := am (kbb (g := gb162) (o := .cells #[.int .i64 a0_0, .int .i64 a0_1, .int .i64 a0_2, .int .i64 a0_3, .slice A0_4 l0_4.length c0_4] 32 (0, 0)) (by (with_reducible repeat (first | apply kdn | apply kdr | apply kal)); exact BK162.out) hb)
    have n1_ := am (below_step (by repeat (first | (with_reducible first | exact HB.out | apply bal | apply pdn | apply bd1 | refine bst ?_ GE162.out) | exact HB.out)) hb)
    clear BK162
    clear HB
    have BK162 := n0_
    have HB := n1_
    clear n0_ n1_
    refine hK.out _ _ ⟨(kce BK162.out 0).trans rfl, (kce BK162.out 1).trans rfl, (kce BK162.out 2).trans rfl, (kce BK162.out 3).trans rfl, (kce BK162.out 4).trans rfl⟩ (fun hHeld => ?_)
    clear hK K
    refine norm_ (a' := ?_) ?_ ?_
    rotate_left
    ·show Act.put _ (some 8) _ = _
     simp only [Act.put, sit, scz, scs, i64_w, i32_w]
     rfl
    refine pure_ (i := 3) (N := some 9) (v := ?_) (a' := ?_) #[true, true, true, true, true, true, false, true, true, false, false, true, true, false, true, true, true, true, false, false, false] rfl rfl (any_of HT_.out (by kernel_rfl)) (fun _ _ _ h => h) (Or.inl ⟨by rfl, ?_⟩) ?_ ?_
    rotate_left
    ·intro w'
     go_simp
     with_reducible rfl
    rotate_left
    ·simp only [Act.put, sit, scz, scs, i64_w, i32_w]
     rfl
    refine pure_ (i := 6) (N := some 12) (v := ?_) (a' := ?_) #[true, true, true, true, true, true, true, true, true, false, false, true, true, false, true, true, true, true, false, false, false] rfl rfl (any_of HT_.out (by kernel_rfl)) (fun _ _ _ h => h) (Or.inl ⟨by rfl, ?_⟩) ?_ ?_
    rotate_left
    ·intro w'
     go_simp
     with_reducible rfl
    rotate_left
    ·simp only [Act.put, sit, scz, scs, i64_w, i32_w]
     rfl
    refine one_ (i := 9) (N := some 15) #[true, true, true, true, true, true, true, true, true, true, false, true, true, false, true, true, true, true, false, false, false] rfl rfl (one_of HT_.out (by kernel_rfl)) (by decide) (fun K hK => ?_)
    refine goes_ Try.func80 (by kernel_rfl) rfl #[.agg #[.int .i64 a0_0, .int .i64 a0_1, .int .i64 a0_2, .int .i64 a0_3, .slice A0_4 l0_4.length c0_4]] (by rfl) rfl rfl (by (try simp only [mta, mco, mni]); first | done | rfl | (simp only [lnd, lnt]; rfl)) ?_
    with_reducible refine (impl_Wide_stripe.calls a0_0 a0_1 a0_2 a0_3 _ _ l0_4 t164 _ ?side1 ?side2 A6.out).mono ?_
    (case side1 => repeat (first | exact (Kd.C_below HR0_4.out HB.out) | (with_reducible first | apply kca | apply kcn | apply kcd)))
    (case side2 => exact HC0_4.out)
    rintro e w11 ⟨rfl, hb⟩
    refine ⟨_, rfl, ?_⟩
    have n0_ := am (kbb (g := gb162) (o := .cells #[.int .i64 a0_0, .int .i64 a0_1, .int .i64 a0_2, .int .i64 a0_3, .slice A0_4 l0_4.length c0_4] 32 (0, 0)) (by (with_reducible repeat (first | apply kdn | apply kdr | apply kal)); exact BK162.out) hb)
    have n1_ := am (below_step (by repeat (first | (with_reducible first | exact HB.out | apply bal | apply pdn | apply bd1 | refine bst ?_ GE162.out) | exact HB.out)) hb)
    clear BK162
    clear HB
    have BK162 := n0_
    have HB := n1_
    clear n0_ n1_
    refine hK.out _ _ ⟨(kce BK162.out 0).trans rfl, (kce BK162.out 1).trans rfl, (kce BK162.out 2).trans rfl, (kce BK162.out 3).trans rfl, (kce BK162.out 4).trans rfl⟩ (fun hHeld => ?_)
    clear hK K
    refine norm_ (a' := ?_) ?_ ?_
    rotate_left
    ·show Act.put _ (some 15) _ = _
     simp only [Act.put, sit, scz, scs, i64_w, i32_w]
     rfl
    refine pure_ (i := 10) (N := some 16) (v := ?_) (a' := ?_) #[true, true, true, true, true, true, true, true, true, true, true, true, true, false, true, true, true, true, false, false, false] rfl rfl (any_of HT_.out (by kernel_rfl)) (fun _ _ _ h => h) (Or.inl ⟨by rfl, ?_⟩) ?_ ?_
    rotate_left
    ·intro w'
     go_simp
     with_reducible rfl
    rotate_left
    ·simp only [Act.put, sit, scz, scs, i64_w, i32_w]
     rfl
    refine pure_ (i := 13) (N := some 19) (v := ?_) (a' := ?_) #[true, true, true, true, true, true, true, true, true, true, true, true, true, true, true, true, true, true, false, false, false] rfl rfl (any_of HT_.out (by kernel_rfl)) (fun _ _ _ h => h) (Or.inl ⟨by rfl, ?_⟩) ?_ ?_
    rotate_left
    ·intro w'
     go_simp
     with_reducible rfl
    rotate_left
    ·simp only [Act.put, sit, scz, scs, i64_w, i32_w]
     rfl
    refine pure_ (i := 18) (N := some 24) (v := ?_) (a' := ?_) #[true, true, true, true, true, true, true, true, true, true, true, true, true, true, true, true, true, true, true, false, false] rfl rfl (any_of HT_.out (by kernel_rfl)) (fun _ _ _ h => h) (Or.inl ⟨by rfl, ?_⟩) ?_ ?_
    rotate_left
    ·intro w'
     go_simp
     with_reducible rfl
    rotate_left
    ·simp only [Act.put, sit, scz, scs, i64_w, i32_w]
     rfl
    refine pure_ (i := 19) (N := some 4) (v := ?_) (a' := ?_) #[true, true, true, true, true, true, true, true, true, true, true, true, true, true, true, true, true, true, true, true, false] rfl rfl (any_of HT_.out (by kernel_rfl)) (fun _ _ _ h => h) (Or.inl ⟨by rfl, ?_⟩) ?_ ?_
    rotate_left
    ·intro w'
     go_simp
     with_reducible rfl
    rotate_left
    ·simp only [Act.put, sit, scz, scs, i64_w, i32_w]
     rfl
    refine pure_ (i := 20) (N := some 5) (v := ?_) (a' := ?_) #[true, true, true, true, true, true, true, true, true, true, true, true, true, true, true, true, true, true, true, true, true] rfl rfl (any_of HT_.out (by kernel_rfl)) (fun _ _ _ h => h) (Or.inl ⟨by rfl, ?_⟩) ?_ ?_
    rotate_left
    ·intro w'
     go_simp
     with_reducible rfl
    rotate_left
    ·simp only [Act.put, sit, scz, scs, i64_w, i32_w]
     rfl
    refine done_ (done_of HT_.out (by kernel_rfl)) ?_
    try go_wp2
    go_ret2
    exact ⟨by first | rfl | (simp [errW_none, errW_some] <;> rfl) | (simp [*, errW_none, errW_some] <;> rfl), by repeat (first | (with_reducible first | exact HB.out | apply bal | apply pdn | apply bd1 | refine bst ?_ GE162.out) | exact HB.out)⟩

/-! ### impl_Wide_body: function 40 -/
/- The table of numbers by hand: the shelf's own word asks for a type (the empty interface) that no body of this closure names. -/
def impl_Wide_body_lw_ren : Go.Shelf.Ren := ⟨fun | 167 => 77 | 240 => 107 | 276 => 113 | n => n, fun | 0 => 0 | 4 => 4 | 5 => 5 | 9 => 9 | 20 => 20 | 37 => 107 | 70 => 112 | 72 => 114 | 75 => 117 | 164 => 140 | 80 => 119 | n => n, fun n => n⟩
theorem impl_Wide_body_lw : Lays.n167 Try.prog impl_Wide_body_lw_ren where
 mixed := by kernel_rfl
 f167 := Try.func77.trans (congrArg some (by kernel_rfl))
 f240 := Try.func107.trans (congrArg some (by kernel_rfl))
 f276 := Try.func113.trans (congrArg some (by kernel_rfl))
 t0 := Try.underlying0
 a0 := Try.isAgg0
 z0 := Try.sizeOf0
 v0 := Try.zeroValue0
 t4 := Try.underlying4
 a4 := Try.isAgg4
 z4 := Try.sizeOf4
 v4 := Try.zeroValue4
 t5 := Try.underlying5
 a5 := Try.isAgg5
 z5 := Try.sizeOf5
 v5 := Try.zeroValue5
 t9 := Try.underlying9
 a9 := Try.isAgg9
 z9 := Try.sizeOf9
 v9 := Try.zeroValue9
 t20 := Try.underlying20
 a20 := Try.isAgg20
 z20 := Try.sizeOf20
 v20 := Try.zeroValue20
 t37 := Try.underlying107
 a37 := Try.isAgg107
 z37 := Try.sizeOf107
 v37 := Try.zeroValue107
 t70 := Try.underlying112
 a70 := Try.isAgg112
 z70 := Try.sizeOf112
 v70 := Try.zeroValue112
 t72 := Try.underlying114
 a72 := Try.isAgg114
 z72 := Try.sizeOf114
 v72 := Try.zeroValue114
 t75 := Try.underlying117
 a75 := Try.isAgg117
 z75 := Try.sizeOf117
 v75 := Try.zeroValue117
 t164 := Try.underlying140
 a164 := Try.isAgg140
 z164 := Try.sizeOf140
 v164 := Try.zeroValue140
open Go.Shelf Go.Lib in
shelf_lay Lays.n169 Nm 169 at Try as impl_Wide_body_ls
open Go.Shelf Go.Lib in
theorem impl_Wide_body.extraW : Builder.Extra Try.prog impl_Wide_body_lw_ren where
 sizeBuilder := by kernel_rfl
 liesBuilder := by kernel_rfl
 t5 := impl_Wide_body_lw.t5
 a5 := impl_Wide_body_lw.a5
 z5 := impl_Wide_body_lw.z5
 v5 := impl_Wide_body_lw.v5
 infoByte := by kernel_rfl
 cellsByte := by kernel_rfl
 sizeByte := by kernel_rfl
 neB5 := by decide
open Go.Shelf Go.Lib in
theorem impl_Wide_body.extraS : Builder.Extra Try.prog impl_Wide_body_ls_ren where
 sizeBuilder := by kernel_rfl
 liesBuilder := by kernel_rfl
 t5 := impl_Wide_body_lw.t5
 a5 := impl_Wide_body_lw.a5
 z5 := impl_Wide_body_lw.z5
 v5 := impl_Wide_body_lw.v5
 infoByte := by kernel_rfl
 cellsByte := by kernel_rfl
 sizeByte := by kernel_rfl
 neB5 := by decide
theorem impl_Wide_body.numW : impl_Wide_body_lw_ren.f 167 = 77 := by kernel_rfl
theorem impl_Wide_body.numS : impl_Wide_body_ls_ren.f 169 = 78 := by kernel_rfl
theorem impl_Wide_body.tW : impl_Wide_body_lw_ren.t 72 = 114 ∧ impl_Wide_body_lw_ren.t 5 = 5 := ⟨by kernel_rfl, by kernel_rfl⟩
theorem impl_Wide_body.tS : impl_Wide_body_ls_ren.t 72 = 114 ∧ impl_Wide_body_ls_ren.t 5 = 5 := ⟨by kernel_rfl, by kernel_rfl⟩
abbrev impl_Wide_body.Bld (B b : Nat) (bs : List Value) (w : World) : Prop := Go.Lib.IsBuilder 114 5 B b bs w
theorem impl_Wide_body.below {B b : Nat} {bs : List Value} {w w' : World} (h : impl_Wide_body.Bld B b bs w) (hb : Below w.heap.size w w') : impl_Wide_body.Bld B b bs w' := by
 have key : ∀ p, Go.Lib.BuilderAt 114 5 B b p bs w → Go.Lib.BuilderAt 114 5 B b p bs w' := fun p ⟨h1, v, h2, h3, h4⟩ =>
  ⟨h1, v, (hb.block b (Array.getElem?_eq_some_iff.1 h2).1).trans h2, pw_own_below h3 hb, h4⟩
 exact h.imp (key _) (key _)
theorem impl_Wide_body.write (B b : Nat) (bs : List Value) (c : Int) (w : World) (h : impl_Wide_body.Bld B b bs w) (hlen : bs.length + 1 ≤ 140737488355328) (hB : B ≤ w.heap.size) :
  Calls Try.prog 77 #[.pointer (some ⟨b, 0, none⟩), .int .u8 c] w fun e w' => e = .returned .nilIface ∧ impl_Wide_body.Bld B b (bs ++ [.int .u8 c]) w' ∧ Below B w w' := by
 have h1 := Go.Proofs.Any.Builder_WriteByte impl_Wide_body_lw impl_Wide_body.extraW B b bs c w (by rw [impl_Wide_body.tW.1, impl_Wide_body.tW.2]; exact h) hlen hB
 rw [impl_Wide_body.numW, impl_Wide_body.tW.1, impl_Wide_body.tW.2] at h1
 exact h1.mono fun e w' ⟨he, hb, hw⟩ => ⟨he, .inr hb, hw⟩
theorem impl_Wide_body.str (B b : Nat) (l : List UInt8) (w : World) (h : impl_Wide_body.Bld B b (Go.Lib.byteCells l) w) (hB : B ≤ w.heap.size) :
  Calls Try.prog 78 #[.pointer (some ⟨b, 0, none⟩)] w fun e w' => e = .returned (.string ⟨l.toArray⟩) ∧ Below B w w' := by
 have h1 := Go.Proofs.Any.Builder_String_any impl_Wide_body_ls impl_Wide_body.extraS B b l w (by rw [impl_Wide_body.tS.1, impl_Wide_body.tS.2]; exact h) hB
 rw [impl_Wide_body.numS] at h1
 exact h1
/-- The bytes from a place on, so many of them. -/
def impl_Wide_body.bytes (K M U Z : Int) (l cols : List ByteArray) : Nat → Nat → Option (List UInt8)
 | 0, _ => some []
 | n + 1, p => (impl_Wide_cell.f K M U Z l (p : Int)).bind fun co =>
   if 0 ≤ co.1 ∧ co.1 < (cols.length : Int) ∧ 0 ≤ co.2 ∧ co.2 < ((rdOf ByteArray.empty cols co.1).size : Int) then (impl_Wide_body.bytes K M U Z l cols n (p + 1)).map fun L => (rdOf ByteArray.empty cols co.1).data.toList.getD co.2.toNat 0 :: L else none
def impl_Wide_body.f (K M U Z : Int) (l cols : List ByteArray) (a n : Int) : Option (ByteArray) :=
 if 0 ≤ a ∧ 0 ≤ n ∧ a + n ≤ 1000000 then (impl_Wide_body.bytes K M U Z l cols n.toNat a.toNat).map fun L => ⟨L.toArray⟩ else none
set_option maxHeartbeats 4000000 in
set_option maxRecDepth 100000 in
theorem impl_Wide_body.calls (K : Int) (M : Int) (U : Int) (Z : Int) (A0_4 : Option Addr) (c0_4 : Nat) (l : List ByteArray) (A1 : Option Addr) (c1 : Nat) (cols : List ByteArray) (a2 : Int) (a3 : Int) (r : ByteArray) (w : World) (hr0_4 : Kd.C Kd.string w A0_4 l.length l) (hc0_4 : l.length ≤ c0_4) (hr1 : Kd.C Kd.string w A1 cols.length cols) (hc1 : cols.length ≤ c1) (h : impl_Wide_body.f K M U Z l cols a2 a3 = some r) :
  Calls Try.prog 40 #[.agg #[.int .i64 K, .int .i64 M, .int .i64 U, .int .i64 Z, .slice A0_4 l.length c0_4], .slice A1 cols.length c1, .int .i64 a2, .int .i64 a3] w fun e w' => e = .returned (.string r) ∧ Below w.heap.size w w' := by
 unfold impl_Wide_body.f at h
 split at h
 case isFalse => cases h
 rename_i hcc
 obtain ⟨h0, h1, h2⟩ := hcc
 obtain ⟨a, rfl⟩ := Int.eq_ofNat_of_zero_le h0
 obtain ⟨n, rfl⟩ := Int.eq_ofNat_of_zero_le h1
 rw [Int.toNat_natCast, Int.toNat_natCast] at h
 obtain ⟨T, hT, rfl⟩ := Option.map_eq_some_iff.1 h
 have HT := am hT
 have HN := am h2
 have HWR : Aside0 (wrap64 ((a : Int) + (n : Int)) = (a : Int) + (n : Int)) := ⟨by unfold wrap64; omega⟩
 have HR0 := am hr0_4
 have HR1 := am hr1
 have HC0 := am hc0_4
 clear h hT h0 h1 h2 hr0_4 hc0_4 hr1 hc1
 obtain ⟨W2, hW2⟩ : ∃ W2, W2 = (w.alloc (.cells #[.int .i64 K, .int .i64 M, .int .i64 U, .int .i64 Z, .slice A0_4 l.length c0_4] 32)).alloc (.cells #[.pointer none, .slice none 0 0] 114) := ⟨_, rfl⟩
 have hBW : Below w.heap.size w W2 := by rw [hW2]; exact ((Below.refl _ _).alloc (Nat.le_refl _) _).alloc (by simp) _
 have hz2 : W2.heap.size = w.heap.size + 2 := by rw [hW2]; simp
 have HS : Aside0 (∀ w', Below (w.heap.size + 1) W2 w' → (w'.cell? ⟨w.heap.size, 0, none⟩ = some (.int .i64 K) ∧ w'.cell? ⟨w.heap.size, 1, none⟩ = some (.int .i64 M) ∧ w'.cell? ⟨w.heap.size, 2, none⟩ = some (.int .i64 U) ∧ w'.cell? ⟨w.heap.size, 3, none⟩ = some (.int .i64 Z) ∧ w'.cell? ⟨w.heap.size, 4, none⟩ = some (.slice A0_4 l.length c0_4) ∧ Below w.heap.size w w')) := ⟨fun w' hb => by
  have e : ∀ (i : Nat) (v : Value), W2.cell? ⟨w.heap.size, i, none⟩ = some v → w'.cell? ⟨w.heap.size, i, none⟩ = some v := fun i v hp => (hb.cell (p := ⟨w.heap.size, i, none⟩) (Nat.lt_succ_self _)).trans hp
  exact ⟨e _ _ (by rw [hW2]; simp), e _ _ (by rw [hW2]; simp), e _ _ (by rw [hW2]; simp), e _ _ (by rw [hW2]; simp), e _ _ (by rw [hW2]; simp), hBW.trans (hb.mono (Nat.le_succ _))⟩⟩
 have HB0 : Aside0 (impl_Wide_body.Bld (w.heap.size + 1) (w.heap.size + 1) (Go.Lib.byteCells []) W2) := ⟨.inl ⟨Nat.le_refl _, .slice none 0 0, by rw [hW2]; simpa using Go.heap_alloc_new (w.alloc (.cells #[.int .i64 K, .int .i64 M, .int .i64 U, .int .i64 Z, .slice A0_4 l.length c0_4] 32)) _, own_nil _ _ _ _, by simp [Value.ownBlock]⟩⟩
 have HZ2 := am hz2
 have HW2 := am hW2
 clear hBW hz2 hW2
 go_enter Try.func40, Try.ntmps40
 go_wp2
 rw [← HW2.out]
 go_loopg [10] n (fun gg s10 wr => ∃ (j : Nat) (pre rest : List UInt8), s10 = .int .i64 ((a : Int) + (j : Int)) ∧ Aside0 (j ≤ n ∧ n - j ≤ gg ∧ pre ++ rest = T ∧ pre.length = j ∧ impl_Wide_body.bytes K M U Z l cols (n - j) (a + j) = some rest) ∧ Aside0 (impl_Wide_body.Bld (w.heap.size + 1) (w.heap.size + 1) (Go.Lib.byteCells pre) wr) ∧ Aside0 (Below (w.heap.size + 1) W2 wr))
 case atStart => exact ⟨0, [], T, by simp, ⟨Nat.zero_le _, Nat.le_refl _, rfl, rfl, HT.out⟩, HB0, ⟨Below.refl _ _⟩⟩
 case round =>
  obtain ⟨j, pre, rest, rfl, HJ, HB, HW⟩ := hrel
  have hj := HJ.out
  have hn2 := HN.out
  by_cases hlt : j < n
  ·obtain ⟨m, hm⟩ : ∃ m, n - j = m + 1 := ⟨n - j - 1, by omega⟩
   have hby := hj.2.2.2.2
   rw [hm] at hby
   obtain ⟨⟨co1, co2⟩, hcell, hrest⟩ := Option.bind_eq_some_iff.1 hby
   simp only at hrest
   rw [Int.natCast_add] at hcell
   split at hrest
   case isFalse => cases hrest
   rename_i hcc
   obtain ⟨i0, i1, i2, i3⟩ := hcc
   obtain ⟨L, hL, hLr⟩ := Option.map_eq_some_iff.1 hrest
   have HL := am (And.intro hL hLr)
   have HM := am hm
   have hltb : decide ((a : Int) + (j : Int) < wrap64 ((a : Int) + (n : Int))) = true := decide_eq_true (by rw [HWR.out]; omega)
   obtain ⟨z0, z1, z2, z3, z4, hbw⟩ := HS.out wr HW.out
   have HCALL := am (impl_Wide_cell.calls K M U Z A0_4 c0_4 l ((a : Int) + (j : Int)) co1 co2 wr (Kd.C_below HR0.out hbw) HC0.out hcell)
   obtain ⟨ad, e, hx⟩ := Kd.at_string HR1.out co1 i0 i1
   cases e
   replace hx := (hbw.cell (blc w _ hx)).trans hx
   have HHX := am hx
   have HLT := am hlt
   generalize hcol : rdOf ByteArray.empty cols co1 = col at HHX HL i3
   have hp0 : ((0 : Int) ≤ co1) = True := eq_true i0
   have hp1 : (co1 < (cols.length : Int)) = True := eq_true i1
   have hq0 : ((0 : Int) ≤ co2) = True := eq_true i2
   have hq1 : (co2 < (col.size : Int)) = True := eq_true i3
   clear hj hn2 hby hcell hrest hL hLr hm hlt hx hcol i0 i1 i2 i3 hbw
   have HCO : Aside0 (co2.toNat < col.size) := ⟨by have h1 := of_eq_true hq0; have h2 := of_eq_true hq1; omega⟩
   have HSZ : Aside0 (w.heap.size + 1 ≤ wr.heap.size) := ⟨by have := HW.out.size; have := HZ2.out; omega⟩
   have HLEN : Aside0 ((Go.Lib.byteCells pre).length + 1 ≤ 140737488355328) := ⟨by rw [Go.Lib.byteCells_length]; have := HJ.out; have := HN.out; omega⟩
   go_wp2_with (first | (go_at_call 76; refine HCALL.out.mono ?_; rintro e w3 ⟨rfl, hb3⟩; have HB3 := am hb3; have hx := (hb3.cell (blc wr _ HHX.out)).trans HHX.out; have HWB := am (impl_Wide_body.write _ _ (Go.Lib.byteCells pre) ((col[co2.toNat]'HCO.out).toNat : Int) w3 (impl_Wide_body.below HB.out hb3) HLEN.out (Nat.le_trans HSZ.out hb3.size)); clear hb3) | (go_at_call 77; refine HWB.out.mono ?_; rintro e w4 ⟨rfl, hb4, hbw4⟩; have HB4 := am hb4; have HBW4 := am hbw4; clear hb4 hbw4))
   go_roundg (n - (j + 1))
   case measure => have := HJ.out; have := HLT.out; omega
   case rel =>
    have hj := HJ.out
    have hn2 := HN.out
    have hl := HL.out
    have hlt := HLT.out
    have hm := HM.out
    have ec : col[co2.toNat]'HCO.out = col.data.toList.getD co2.toNat 0 := by
     have h' : co2.toNat < col.data.toList.length := by simpa using HCO.out
     have e1 : col.data.toList.getD co2.toNat 0 = col.data.toList[co2.toNat] := by simp only [List.getD, List.getElem?_eq_getElem h', Option.getD_some]
     rw [e1, Array.getElem_toList]
     rfl
    refine ⟨j + 1, pre ++ [col.data.toList.getD co2.toNat 0], L, ?_, ⟨by omega, Nat.le_refl _, ?_, by simp; omega, ?_⟩, ⟨?_⟩, ⟨HW.out.trans ((HB3.out.mono HSZ.out).trans HBW4.out)⟩⟩
    ·first | go_num | (congr 1; unfold wrap64; omega)
    ·rw [List.append_assoc, ← hj.2.2.1]
     rw [← hl.2]
     rfl
    ·rw [show n - (j + 1) = m from by omega, show a + (j + 1) = a + j + 1 from by omega]
     exact hl.1
    ·have h4 := HB4.out
     rw [ec] at h4
     have e : Go.Lib.byteCells (pre ++ [col.data.toList.getD co2.toNat 0]) = Go.Lib.byteCells pre ++ [.int .u8 ((col.data.toList.getD co2.toNat 0).toNat : Int)] := by simp [Go.Lib.byteCells]
     rw [e]
     exact h4
  ·have hltb : decide ((a : Int) + (j : Int) < wrap64 ((a : Int) + (n : Int))) = false := decide_eq_false (by rw [HWR.out]; omega)
   have HE : Aside0 (pre = T) := ⟨by
    have e := hj.2.2.2.2
    rw [show n - j = 0 from by omega] at e
    obtain rfl := Option.some.inj e
    simpa using hj.2.2.1⟩
   have HSZ : Aside0 (w.heap.size + 1 ≤ wr.heap.size) := ⟨by have := HW.out.size; have := HZ2.out; omega⟩
   clear hj hn2 hlt
   go_wp2_with (go_at_call 78; refine (impl_Wide_body.str _ _ pre wr HB.out HSZ.out).mono ?_; rintro e w' ⟨rfl, hb⟩; have HQ := am hb; clear hb)
   go_ret
   exact ⟨by rw [HE.out] <;> rfl, (HS.out wr HW.out).2.2.2.2.2.trans (HQ.out.mono (Nat.le_succ _))⟩

/-! ### impl_ReadWide: function 15 -/
def impl_ReadWide.f (a0_0 : Int) (a0_1 : Int) (a0_2 : Int) (a0_3 : Int) (l0_4 : List ByteArray) (a1 : Int) (a2 : Int) : Option (ByteArray × Int) := (impl_WideOk.f a0_0 a0_1 a0_2 a0_3 l0_4).bind fun t166 => (if t166 = true then ((impl_between.f a1 0 a0_3).bind fun t167 => (if t167 = true then (if a2 < 0 then (some ((⟨#[]⟩ : ByteArray), 2)) else ((impl_Wide_body.f a0_0 a0_1 a0_2 a0_3 l0_4 l0_4 a1 (mn a2 (wrap64 (a0_3 - a1)))).bind fun t168 => (some (t168, 0)))) else (some ((⟨#[]⟩ : ByteArray), 2)))) else (some ((⟨#[]⟩ : ByteArray), 1)))
set_option maxHeartbeats 8000000 in
set_option maxRecDepth 100000 in
theorem impl_ReadWide.calls (a0_0 : Int) (a0_1 : Int) (a0_2 : Int) (a0_3 : Int) (A0_4 : Option Addr) (c0_4 : Nat) (l0_4 : List ByteArray) (a1 : Int) (a2 : Int) (r1 : ByteArray) (r2 : Int) (w : World) (hr0_4 : Kd.C Kd.string w A0_4 l0_4.length l0_4) (hc0_4 : l0_4.length ≤ c0_4) (h : impl_ReadWide.f a0_0 a0_1 a0_2 a0_3 l0_4 a1 a2 = some (r1, r2)) :
  Calls Try.prog 15 #[.agg #[.int .i64 a0_0, .int .i64 a0_1, .int .i64 a0_2, .int .i64 a0_3, .slice A0_4 l0_4.length c0_4], .int .i64 a1, .int .i64 a2] w fun e w' => e = .returned (.tuple #[.string r1, .int .i64 r2]) ∧ Below w.heap.size w w' := by
 have hu32 := Try.underlying32
 have HR0_4 := am hr0_4
 have HC0_4 := am hc0_4
 clear hr0_4 hc0_4
 have HB := am (Below.refl w.heap.size w)
 have H : ((impl_WideOk.f a0_0 a0_1 a0_2 a0_3 l0_4).bind fun t166 => (if t166 = true then ((impl_between.f a1 0 a0_3).bind fun t167 => (if t167 = true then (if a2 < 0 then (some ((⟨#[]⟩ : ByteArray), 2)) else ((impl_Wide_body.f a0_0 a0_1 a0_2 a0_3 l0_4 l0_4 a1 (mn a2 (wrap64 (a0_3 - a1)))).bind fun t168 => (some (t168, 0)))) else (some ((⟨#[]⟩ : ByteArray), 2)))) else (some ((⟨#[]⟩ : ByteArray), 1)))) = some (r1, r2) := h
 clear h
 replace H := Option.bind_eq_some_iff.mp H
 obtain ⟨t166, A40, H⟩ := H
 replace H : (if t166 = true then ((impl_between.f a1 0 a0_3).bind fun t167 => (if t167 = true then (if a2 < 0 then (some ((⟨#[]⟩ : ByteArray), 2)) else ((impl_Wide_body.f a0_0 a0_1 a0_2 a0_3 l0_4 l0_4 a1 (mn a2 (wrap64 (a0_3 - a1)))).bind fun t168 => (some (t168, 0)))) else (some ((⟨#[]⟩ : ByteArray), 2)))) else (some ((⟨#[]⟩ : ByteArray), 1))) = some (r1, r2) := H
 have A4 := am A40
 clear A40
 by_cases c5 : t166 = true
 ·subst c5
  have H1 : ((impl_between.f a1 0 a0_3).bind fun t167 => (if t167 = true then (if a2 < 0 then (some ((⟨#[]⟩ : ByteArray), 2)) else ((impl_Wide_body.f a0_0 a0_1 a0_2 a0_3 l0_4 l0_4 a1 (mn a2 (wrap64 (a0_3 - a1)))).bind fun t168 => (some (t168, 0)))) else (some ((⟨#[]⟩ : ByteArray), 2)))) = some (r1, r2) := by rw [if_pos rfl] at H; exact H
  clear H
  have H := H1
  clear H1
  replace H := Option.bind_eq_some_iff.mp H
  obtain ⟨t167, A60, H⟩ := H
  replace H : (if t167 = true then (if a2 < 0 then (some ((⟨#[]⟩ : ByteArray), 2)) else ((impl_Wide_body.f a0_0 a0_1 a0_2 a0_3 l0_4 l0_4 a1 (mn a2 (wrap64 (a0_3 - a1)))).bind fun t168 => (some (t168, 0)))) else (some ((⟨#[]⟩ : ByteArray), 2))) = some (r1, r2) := H
  have A6 := am A60
  clear A60
  by_cases c7 : t167 = true
  ·subst c7
   have H1 : (if a2 < 0 then (some ((⟨#[]⟩ : ByteArray), 2)) else ((impl_Wide_body.f a0_0 a0_1 a0_2 a0_3 l0_4 l0_4 a1 (mn a2 (wrap64 (a0_3 - a1)))).bind fun t168 => (some (t168, 0)))) = some (r1, r2) := by rw [if_pos rfl] at H; exact H
   clear H
   have H := H1
   clear H1
   by_cases c8 : a2 < 0
   ·rw [if_pos c8] at H
    have c8b0 : decide (a2 < 0) = true := decide_eq_true c8
    clear c8
    simp only [Option.some.injEq, Prod.mk.injEq] at H
    obtain ⟨rfl, rfl⟩ := H
    go_enter Try.func15, Try.ntmps15
    go_wp2_with (first | ((with_reducible refine gate_dst (N := 3) rfl ?_); refine box_event ?hg (N := 3) ?hd (cs := #[.int .i64 a0_0, .int .i64 a0_1, .int .i64 a0_2, .int .i64 a0_3, .slice A0_4 l0_4.length c0_4]) (t := 32) ?hr ?_; (case hd => rfl); (case hg => rfl); (case hr => first | (go_simp; done) | (go_simp; rfl)); intro gb165 hg w9 hbox hb; have n0_ := am (below_step (by repeat (first | (with_reducible first | exact HB.out | apply bal | apply pdn | apply bd1) | exact HB.out)) hb); have n1_ := am (hbox); have n2_ := am ((by rw [hg]; exact (below_size (by repeat (first | (with_reducible first | exact HB.out | apply bal | apply pdn | apply bd1) | exact HB.out))) : w.heap.size ≤ gb165)); have n3_ := am ((by rw [hg]; exact (below_size (by repeat (first | (with_reducible first | exact HB.out | apply bal | apply pdn | apply bd1) | exact HB.out))) : w.heap.size ≤ gb165)); clear HB; have HB := n0_; have BK165 := n1_; have GW165 := n2_; have GE165 := n3_; clear n0_ n1_ n2_ n3_; clear hb hbox hg; have hcz10_0 : w9.cell? ⟨gb165, 0, none⟩ = some (.int .i64 a0_0) := (kce BK165.out 0).trans rfl; have hcz10_1 : w9.cell? ⟨gb165, 1, none⟩ = some (.int .i64 a0_1) := (kce BK165.out 1).trans rfl; have hcz10_2 : w9.cell? ⟨gb165, 2, none⟩ = some (.int .i64 a0_2) := (kce BK165.out 2).trans rfl; have hcz10_3 : w9.cell? ⟨gb165, 3, none⟩ = some (.int .i64 a0_3) := (kce BK165.out 3).trans rfl; have hcz10_4 : w9.cell? ⟨gb165, 4, none⟩ = some (.slice A0_4 l0_4.length c0_4) := (kce BK165.out 4).trans rfl; have hfz10_0 := kfr BK165.out 0; have hfz10_1 := kfr BK165.out 1; have hfz10_2 := kfr BK165.out 2; have hfz10_3 := kfr BK165.out 3; have hfz10_4 := kfr BK165.out 4) | ((with_reducible refine gate_callee (f := 39) rfl ?_); refine goesL_ (some 10) rfl rfl Try.func39 (by kernel_rfl) rfl #[.agg #[.int .i64 a0_0, .int .i64 a0_1, .int .i64 a0_2, .int .i64 a0_3, .slice A0_4 l0_4.length c0_4]] rfl (by (try simp only [mta, mco, mni]); first | done | rfl | (simp only [lnd, lnt]; rfl)) ?_; (with_reducible refine (impl_WideOk.calls a0_0 a0_1 a0_2 a0_3 _ _ l0_4 true _ ?side1 ?side2 A4.out).mono ?_); (case side1 => repeat (first | exact (Kd.C_below HR0_4.out HB.out) | (with_reducible first | apply kca | apply kcn | apply kcd))); (case side2 => exact HC0_4.out); rintro e w11 ⟨rfl, hb⟩; refine ⟨_, rfl, ?_⟩; have n0_ := am (kbb (g := gb165) (o := .cells #[.int .i64 a0_0, .int .i64 a0_1, .int .i64 a0_2, .int .i64 a0_3, .slice A0_4 l0_4.length c0_4] 32 (0, 0)) (by (with_reducible repeat (first | apply kdn | apply kdr | apply kal)); exact BK165.out) hb); have n1_ := am (below_step (by repeat (first | (with_reducible first | exact HB.out | apply bal | apply pdn | apply bd1 | refine bst ?_ GE165.out) | exact HB.out)) hb); clear BK165; clear HB; have BK165 := n0_; have HB := n1_; clear n0_ n1_; (try clear hb); (try clear hb2); (try clear hk); (try clear hi); have hcz12_0 : w11.cell? ⟨gb165, 0, none⟩ = some (.int .i64 a0_0) := (kce BK165.out 0).trans rfl; have hcz12_1 : w11.cell? ⟨gb165, 1, none⟩ = some (.int .i64 a0_1) := (kce BK165.out 1).trans rfl; have hcz12_2 : w11.cell? ⟨gb165, 2, none⟩ = some (.int .i64 a0_2) := (kce BK165.out 2).trans rfl; have hcz12_3 : w11.cell? ⟨gb165, 3, none⟩ = some (.int .i64 a0_3) := (kce BK165.out 3).trans rfl; have hcz12_4 : w11.cell? ⟨gb165, 4, none⟩ = some (.slice A0_4 l0_4.length c0_4) := (kce BK165.out 4).trans rfl; have hfz12_0 := kfr BK165.out 0; have hfz12_1 := kfr BK165.out 1; have hfz12_2 := kfr BK165.out 2; have hfz12_3 := kfr BK165.out 3; have hfz12_4 := kfr BK165.out 4) | ((with_reducible refine gate_callee (f := 45) rfl ?_); refine goesL_ (some 16) rfl rfl Try.func45 (by kernel_rfl) rfl #[.int .i64 a1, .int .i64 0, .int .i64 a0_3] rfl (by (try simp only [mta, mco, mni]); first | done | rfl | (simp only [lnd, lnt]; rfl)) ?_; (with_reducible refine (impl_between.calls a1 0 a0_3 true _ A6.out).mono ?_); rintro e w' ⟨rfl, ⟨nd, rfl⟩⟩; refine ⟨_, rfl, ?_⟩))
    go_ret2
    exact ⟨by first | rfl | (simp [errW_none, errW_some] <;> rfl) | (simp [*, errW_none, errW_some] <;> rfl), by repeat (first | (with_reducible first | exact HB.out | apply bal | apply pdn | apply bd1 | refine bst ?_ GE165.out) | exact HB.out)⟩
   ·rw [if_neg c8] at H
    have c8b0 : decide (a2 < 0) = false := decide_eq_false c8
    clear c8
    obtain ⟨ji13, hji13⟩ : ∃ j_ : Int, (mn a2 (wrap64 (a0_3 - a1))) = j_ := ⟨_, rfl⟩
    replace H : ((impl_Wide_body.f a0_0 a0_1 a0_2 a0_3 l0_4 l0_4 a1 (ji13)).bind fun t168 => (some (t168, 0))) = some (r1, r2) := by first | (rw [hji13] at H; exact H) | (simp only [hji13] at H ⊢; exact H)
    (try rw [hji13] at A4)
    (try rw [hji13] at A6)
    have hji13_ : (if (wrap64 (a0_3 - a1)) < a2 then (wrap64 (a0_3 - a1)) else a2) = ji13 := hji13
    replace H := Option.bind_eq_some_iff.mp H
    obtain ⟨t168, A140, H⟩ := H
    replace H : (some (t168, 0)) = some (r1, r2) := H
    have A14 := am A140
    clear A140
    simp only [Option.some.injEq, Prod.mk.injEq] at H
    obtain ⟨rfl, rfl⟩ := H
    go_enter Try.func15, Try.ntmps15
    go_wp2_with (first | ((with_reducible refine gate_dst (N := 3) rfl ?_); refine box_event ?hg (N := 3) ?hd (cs := #[.int .i64 a0_0, .int .i64 a0_1, .int .i64 a0_2, .int .i64 a0_3, .slice A0_4 l0_4.length c0_4]) (t := 32) ?hr ?_; (case hd => rfl); (case hg => rfl); (case hr => first | (go_simp; done) | (go_simp; rfl)); intro gb165 hg w15 hbox hb; have n0_ := am (below_step (by repeat (first | (with_reducible first | exact HB.out | apply bal | apply pdn | apply bd1) | exact HB.out)) hb); have n1_ := am (hbox); have n2_ := am ((by rw [hg]; exact (below_size (by repeat (first | (with_reducible first | exact HB.out | apply bal | apply pdn | apply bd1) | exact HB.out))) : w.heap.size ≤ gb165)); have n3_ := am ((by rw [hg]; exact (below_size (by repeat (first | (with_reducible first | exact HB.out | apply bal | apply pdn | apply bd1) | exact HB.out))) : w.heap.size ≤ gb165)); clear HB; have HB := n0_; have BK165 := n1_; have GW165 := n2_; have GE165 := n3_; clear n0_ n1_ n2_ n3_; clear hb hbox hg; have hcz16_0 : w15.cell? ⟨gb165, 0, none⟩ = some (.int .i64 a0_0) := (kce BK165.out 0).trans rfl; have hcz16_1 : w15.cell? ⟨gb165, 1, none⟩ = some (.int .i64 a0_1) := (kce BK165.out 1).trans rfl; have hcz16_2 : w15.cell? ⟨gb165, 2, none⟩ = some (.int .i64 a0_2) := (kce BK165.out 2).trans rfl; have hcz16_3 : w15.cell? ⟨gb165, 3, none⟩ = some (.int .i64 a0_3) := (kce BK165.out 3).trans rfl; have hcz16_4 : w15.cell? ⟨gb165, 4, none⟩ = some (.slice A0_4 l0_4.length c0_4) := (kce BK165.out 4).trans rfl; have hfz16_0 := kfr BK165.out 0; have hfz16_1 := kfr BK165.out 1; have hfz16_2 := kfr BK165.out 2; have hfz16_3 := kfr BK165.out 3; have hfz16_4 := kfr BK165.out 4) | ((with_reducible refine gate_callee (f := 39) rfl ?_); refine goesL_ (some 10) rfl rfl Try.func39 (by kernel_rfl) rfl #[.agg #[.int .i64 a0_0, .int .i64 a0_1, .int .i64 a0_2, .int .i64 a0_3, .slice A0_4 l0_4.length c0_4]] rfl (by (try simp only [mta, mco, mni]); first | done | rfl | (simp only [lnd, lnt]; rfl)) ?_; (with_reducible refine (impl_WideOk.calls a0_0 a0_1 a0_2 a0_3 _ _ l0_4 true _ ?side1 ?side2 A4.out).mono ?_); (case side1 => repeat (first | exact (Kd.C_below HR0_4.out HB.out) | (with_reducible first | apply kca | apply kcn | apply kcd))); (case side2 => exact HC0_4.out); rintro e w17 ⟨rfl, hb⟩; refine ⟨_, rfl, ?_⟩; have n0_ := am (kbb (g := gb165) (o := .cells #[.int .i64 a0_0, .int .i64 a0_1, .int .i64 a0_2, .int .i64 a0_3, .slice A0_4 l0_4.length c0_4] 32 (0, 0)) (by (with_reducible repeat (first | apply kdn | apply kdr | apply kal)); exact BK165.out) hb); have n1_ := am (below_step (by repeat (first | (with_reducible first | exact HB.out | apply bal | apply pdn | apply bd1 | refine bst ?_ GE165.out) | exact HB.out)) hb); clear BK165; clear HB; have BK165 := n0_; have HB := n1_; clear n0_ n1_; (try clear hb); (try clear hb2); (try clear hk); (try clear hi); have hcz18_0 : w17.cell? ⟨gb165, 0, none⟩ = some (.int .i64 a0_0) := (kce BK165.out 0).trans rfl; have hcz18_1 : w17.cell? ⟨gb165, 1, none⟩ = some (.int .i64 a0_1) := (kce BK165.out 1).trans rfl; have hcz18_2 : w17.cell? ⟨gb165, 2, none⟩ = some (.int .i64 a0_2) := (kce BK165.out 2).trans rfl; have hcz18_3 : w17.cell? ⟨gb165, 3, none⟩ = some (.int .i64 a0_3) := (kce BK165.out 3).trans rfl; have hcz18_4 : w17.cell? ⟨gb165, 4, none⟩ = some (.slice A0_4 l0_4.length c0_4) := (kce BK165.out 4).trans rfl; have hfz18_0 := kfr BK165.out 0; have hfz18_1 := kfr BK165.out 1; have hfz18_2 := kfr BK165.out 2; have hfz18_3 := kfr BK165.out 3; have hfz18_4 := kfr BK165.out 4) | ((with_reducible refine gate_callee (f := 45) rfl ?_); refine goesL_ (some 16) rfl rfl Try.func45 (by kernel_rfl) rfl #[.int .i64 a1, .int .i64 0, .int .i64 a0_3] rfl (by (try simp only [mta, mco, mni]); first | done | rfl | (simp only [lnd, lnt]; rfl)) ?_; (with_reducible refine (impl_between.calls a1 0 a0_3 true _ A6.out).mono ?_); rintro e w' ⟨rfl, ⟨nd, rfl⟩⟩; refine ⟨_, rfl, ?_⟩) | ((with_reducible refine gate_callee (f := 40) rfl ?_); refine goesL_ (some 32) rfl rfl Try.func40 (by kernel_rfl) rfl #[.agg #[.int .i64 a0_0, .int .i64 a0_1, .int .i64 a0_2, .int .i64 a0_3, .slice A0_4 l0_4.length c0_4], .slice A0_4 l0_4.length c0_4, .int .i64 a1, .int .i64 ji13] rfl (by (try simp only [mta, mco, mni]); first | done | (simp only [hji13]; rfl) | rfl | (simp only [lnd, lnt]; rfl)) ?_; (with_reducible refine (impl_Wide_body.calls a0_0 a0_1 a0_2 a0_3 _ _ l0_4 _ _ l0_4 a1 ji13 t168 _ ?side1 ?side2 ?side3 ?side4 A14.out).mono ?_); (case side1 => repeat (first | exact (Kd.C_below HR0_4.out (by repeat (first | (with_reducible first | exact HB.out | apply bal | apply pdn | apply bd1 | refine bst ?_ GE165.out) | exact HB.out))) | (with_reducible first | apply kca | apply kcn | apply kcd))); (case side2 => exact HC0_4.out); (case side3 => repeat (first | exact (Kd.C_below HR0_4.out (by repeat (first | (with_reducible first | exact HB.out | apply bal | apply pdn | apply bd1 | refine bst ?_ GE165.out) | exact HB.out))) | (with_reducible first | apply kca | apply kcn | apply kcd))); (case side4 => exact HC0_4.out); rintro e w19 ⟨rfl, hb⟩; refine ⟨_, rfl, ?_⟩; have n0_ := am (kbb (g := gb165) (o := .cells #[.int .i64 a0_0, .int .i64 a0_1, .int .i64 a0_2, .int .i64 a0_3, .slice A0_4 l0_4.length c0_4] 32 (0, 0)) (by (with_reducible repeat (first | apply kdn | apply kdr | apply kal)); exact BK165.out) hb); have n1_ := am (below_step (by repeat (first | (with_reducible first | exact HB.out | apply bal | apply pdn | apply bd1 | refine bst ?_ GE165.out) | exact HB.out)) hb); clear BK165; clear HB; have BK165 := n0_; have HB := n1_; clear n0_ n1_; (try clear hb); (try clear hb2); (try clear hk); (try clear hi)))
    go_ret2
    exact ⟨by first | rfl | (simp [errW_none, errW_some] <;> rfl) | (simp only [← hji13]; first | rfl | (simp [errW_none, errW_some] <;> rfl)) | (simp [*, errW_none, errW_some] <;> rfl), by repeat (first | (with_reducible first | exact HB.out | apply bal | apply pdn | apply bd1 | refine bst ?_ GE165.out) | exact HB.out)⟩
  ·replace c7 := Bool.eq_false_iff.mpr c7
   subst c7
   have H1 : (some ((⟨#[]⟩ : ByteArray), 2)) = some (r1, r2) := by rw [if_neg (show ¬ (false = true) by decide)] at H; exact H
   clear H
   have H := H1
   clear H1
   simp only [Option.some.injEq, Prod.mk.injEq] at H
   obtain ⟨rfl, rfl⟩ := H
   go_enter Try.func15, Try.ntmps15
   go_wp2_with (first | ((with_reducible refine gate_dst (N := 3) rfl ?_); refine box_event ?hg (N := 3) ?hd (cs := #[.int .i64 a0_0, .int .i64 a0_1, .int .i64 a0_2, .int .i64 a0_3, .slice A0_4 l0_4.length c0_4]) (t := 32) ?hr ?_; (case hd => rfl); (case hg => rfl); (case hr => first | (go_simp; done) | (go_simp; rfl)); intro gb165 hg w20 hbox hb; have n0_ := am (below_step (by repeat (first | (with_reducible first | exact HB.out | apply bal | apply pdn | apply bd1) | exact HB.out)) hb); have n1_ := am (hbox); have n2_ := am ((by rw [hg]; exact (below_size (by repeat (first | (with_reducible first | exact HB.out | apply bal | apply pdn | apply bd1) | exact HB.out))) : w.heap.size ≤ gb165)); have n3_ := am ((by rw [hg]; exact (below_size (by repeat (first | (with_reducible first | exact HB.out | apply bal | apply pdn | apply bd1) | exact HB.out))) : w.heap.size ≤ gb165)); clear HB; have HB := n0_; have BK165 := n1_; have GW165 := n2_; have GE165 := n3_; clear n0_ n1_ n2_ n3_; clear hb hbox hg; have hcz21_0 : w20.cell? ⟨gb165, 0, none⟩ = some (.int .i64 a0_0) := (kce BK165.out 0).trans rfl; have hcz21_1 : w20.cell? ⟨gb165, 1, none⟩ = some (.int .i64 a0_1) := (kce BK165.out 1).trans rfl; have hcz21_2 : w20.cell? ⟨gb165, 2, none⟩ = some (.int .i64 a0_2) := (kce BK165.out 2).trans rfl; have hcz21_3 : w20.cell? ⟨gb165, 3, none⟩ = some (.int .i64 a0_3) := (kce BK165.out 3).trans rfl; have hcz21_4 : w20.cell? ⟨gb165, 4, none⟩ = some (.slice A0_4 l0_4.length c0_4) := (kce BK165.out 4).trans rfl; have hfz21_0 := kfr BK165.out 0; have hfz21_1 := kfr BK165.out 1; have hfz21_2 := kfr BK165.out 2; have hfz21_3 := kfr BK165.out 3; have hfz21_4 := kfr BK165.out 4) | ((with_reducible refine gate_callee (f := 39) rfl ?_); refine goesL_ (some 10) rfl rfl Try.func39 (by kernel_rfl) rfl #[.agg #[.int .i64 a0_0, .int .i64 a0_1, .int .i64 a0_2, .int .i64 a0_3, .slice A0_4 l0_4.length c0_4]] rfl (by (try simp only [mta, mco, mni]); first | done | rfl | (simp only [lnd, lnt]; rfl)) ?_; (with_reducible refine (impl_WideOk.calls a0_0 a0_1 a0_2 a0_3 _ _ l0_4 true _ ?side1 ?side2 A4.out).mono ?_); (case side1 => repeat (first | exact (Kd.C_below HR0_4.out HB.out) | (with_reducible first | apply kca | apply kcn | apply kcd))); (case side2 => exact HC0_4.out); rintro e w22 ⟨rfl, hb⟩; refine ⟨_, rfl, ?_⟩; have n0_ := am (kbb (g := gb165) (o := .cells #[.int .i64 a0_0, .int .i64 a0_1, .int .i64 a0_2, .int .i64 a0_3, .slice A0_4 l0_4.length c0_4] 32 (0, 0)) (by (with_reducible repeat (first | apply kdn | apply kdr | apply kal)); exact BK165.out) hb); have n1_ := am (below_step (by repeat (first | (with_reducible first | exact HB.out | apply bal | apply pdn | apply bd1 | refine bst ?_ GE165.out) | exact HB.out)) hb); clear BK165; clear HB; have BK165 := n0_; have HB := n1_; clear n0_ n1_; (try clear hb); (try clear hb2); (try clear hk); (try clear hi); have hcz23_0 : w22.cell? ⟨gb165, 0, none⟩ = some (.int .i64 a0_0) := (kce BK165.out 0).trans rfl; have hcz23_1 : w22.cell? ⟨gb165, 1, none⟩ = some (.int .i64 a0_1) := (kce BK165.out 1).trans rfl; have hcz23_2 : w22.cell? ⟨gb165, 2, none⟩ = some (.int .i64 a0_2) := (kce BK165.out 2).trans rfl; have hcz23_3 : w22.cell? ⟨gb165, 3, none⟩ = some (.int .i64 a0_3) := (kce BK165.out 3).trans rfl; have hcz23_4 : w22.cell? ⟨gb165, 4, none⟩ = some (.slice A0_4 l0_4.length c0_4) := (kce BK165.out 4).trans rfl; have hfz23_0 := kfr BK165.out 0; have hfz23_1 := kfr BK165.out 1; have hfz23_2 := kfr BK165.out 2; have hfz23_3 := kfr BK165.out 3; have hfz23_4 := kfr BK165.out 4) | ((with_reducible refine gate_callee (f := 45) rfl ?_); refine goesL_ (some 16) rfl rfl Try.func45 (by kernel_rfl) rfl #[.int .i64 a1, .int .i64 0, .int .i64 a0_3] rfl (by (try simp only [mta, mco, mni]); first | done | rfl | (simp only [lnd, lnt]; rfl)) ?_; (with_reducible refine (impl_between.calls a1 0 a0_3 false _ A6.out).mono ?_); rintro e w' ⟨rfl, ⟨nd, rfl⟩⟩; refine ⟨_, rfl, ?_⟩))
   go_ret2
   exact ⟨by first | rfl | (simp [errW_none, errW_some] <;> rfl) | (simp [*, errW_none, errW_some] <;> rfl), by repeat (first | (with_reducible first | exact HB.out | apply bal | apply pdn | apply bd1 | refine bst ?_ GE165.out) | exact HB.out)⟩
 ·replace c5 := Bool.eq_false_iff.mpr c5
  subst c5
  have H1 : (some ((⟨#[]⟩ : ByteArray), 1)) = some (r1, r2) := by rw [if_neg (show ¬ (false = true) by decide)] at H; exact H
  clear H
  have H := H1
  clear H1
  simp only [Option.some.injEq, Prod.mk.injEq] at H
  obtain ⟨rfl, rfl⟩ := H
  go_enter Try.func15, Try.ntmps15
  go_wp2_with (first | ((with_reducible refine gate_dst (N := 3) rfl ?_); refine box_event ?hg (N := 3) ?hd (cs := #[.int .i64 a0_0, .int .i64 a0_1, .int .i64 a0_2, .int .i64 a0_3, .slice A0_4 l0_4.length c0_4]) (t := 32) ?hr ?_; (case hd => rfl); (case hg => rfl); (case hr => first | (go_simp; done) | (go_simp; rfl)); intro gb165 hg w24 hbox hb; have n0_ := am (below_step (by repeat (first | (with_reducible first | exact HB.out | apply bal | apply pdn | apply bd1) | exact HB.out)) hb); have n1_ := am (hbox); have n2_ := am ((by rw [hg]; exact (below_size (by repeat (first | (with_reducible first | exact HB.out | apply bal | apply pdn | apply bd1) | exact HB.out))) : w.heap.size ≤ gb165)); have n3_ := am ((by rw [hg]; exact (below_size (by repeat (first | (with_reducible first | exact HB.out | apply bal | apply pdn | apply bd1) | exact HB.out))) : w.heap.size ≤ gb165)); clear HB; have HB := n0_; have BK165 := n1_; have GW165 := n2_; have GE165 := n3_; clear n0_ n1_ n2_ n3_; clear hb hbox hg; have hcz25_0 : w24.cell? ⟨gb165, 0, none⟩ = some (.int .i64 a0_0) := (kce BK165.out 0).trans rfl; have hcz25_1 : w24.cell? ⟨gb165, 1, none⟩ = some (.int .i64 a0_1) := (kce BK165.out 1).trans rfl; have hcz25_2 : w24.cell? ⟨gb165, 2, none⟩ = some (.int .i64 a0_2) := (kce BK165.out 2).trans rfl; have hcz25_3 : w24.cell? ⟨gb165, 3, none⟩ = some (.int .i64 a0_3) := (kce BK165.out 3).trans rfl; have hcz25_4 : w24.cell? ⟨gb165, 4, none⟩ = some (.slice A0_4 l0_4.length c0_4) := (kce BK165.out 4).trans rfl; have hfz25_0 := kfr BK165.out 0; have hfz25_1 := kfr BK165.out 1; have hfz25_2 := kfr BK165.out 2; have hfz25_3 := kfr BK165.out 3; have hfz25_4 := kfr BK165.out 4) | ((with_reducible refine gate_callee (f := 39) rfl ?_); refine goesL_ (some 10) rfl rfl Try.func39 (by kernel_rfl) rfl #[.agg #[.int .i64 a0_0, .int .i64 a0_1, .int .i64 a0_2, .int .i64 a0_3, .slice A0_4 l0_4.length c0_4]] rfl (by (try simp only [mta, mco, mni]); first | done | rfl | (simp only [lnd, lnt]; rfl)) ?_; (with_reducible refine (impl_WideOk.calls a0_0 a0_1 a0_2 a0_3 _ _ l0_4 false _ ?side1 ?side2 A4.out).mono ?_); (case side1 => repeat (first | exact (Kd.C_below HR0_4.out HB.out) | (with_reducible first | apply kca | apply kcn | apply kcd))); (case side2 => exact HC0_4.out); rintro e w26 ⟨rfl, hb⟩; refine ⟨_, rfl, ?_⟩; have n0_ := am (kbb (g := gb165) (o := .cells #[.int .i64 a0_0, .int .i64 a0_1, .int .i64 a0_2, .int .i64 a0_3, .slice A0_4 l0_4.length c0_4] 32 (0, 0)) (by (with_reducible repeat (first | apply kdn | apply kdr | apply kal)); exact BK165.out) hb); have n1_ := am (below_step (by repeat (first | (with_reducible first | exact HB.out | apply bal | apply pdn | apply bd1 | refine bst ?_ GE165.out) | exact HB.out)) hb); clear BK165; clear HB; have BK165 := n0_; have HB := n1_; clear n0_ n1_; (try clear hb); (try clear hb2); (try clear hk); (try clear hi)))
  go_ret2
  exact ⟨by first | rfl | (simp [errW_none, errW_some] <;> rfl) | (simp [*, errW_none, errW_some] <;> rfl), by repeat (first | (with_reducible first | exact HB.out | apply bal | apply pdn | apply bd1 | refine bst ?_ GE165.out) | exact HB.out)⟩

end Go.Proofs.Ytmpakjgbbjkacaa.MFnExactReadWide
