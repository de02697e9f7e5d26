-- Written by a program of this session (wip/tools/myprint.py) over the kit's print: it is not the kit's print.
import Derived.Test.YtmpakjgbbjkacaaExtra
import Derived.Lib.Agree
import Derived.Ground.NamesProg
import Derived.Shelf.Lay
import Derived.Shelf.Strings.Builder1
import Derived.Test.YtmpakjgbbjkacaaMFnExactWideBodyx0
import Derived.Test.YtmpakjgbbjkacaaMFnExactWideBodyx3
import Derived.Test.YtmpakjgbbjkacaaMFnExactWideBodyx4
namespace Go.Proofs.Ytmpakjgbbjkacaa.MFnExactWideBody
open Go.RowKit Go.Proofs.YtmpakjgbbjkacaaW.PrintWords Go.Proofs.YtmpakjgbbjkacaaW.PrintLast Go.Proofs.YtmpakjgbbjkacaaW.PrintMore
open List renaming setIfInBounds_toArray → sit, set_cons_zero → scz, set_cons_succ → scs, map_toArray → mta, map_cons → mco, map_nil → mni, length_drop → lnd, length_take → lnt
open World renaming block_lt_of_cell? → blc
attribute [local go_sem] max2_int min2_int max_two min_two max_three min_three max_four min_four   -- for this text's walks alone
set_option linter.unusedVariables false
set_option linter.unusedSimpArgs false

/-! ### impl_Wide_cell: function 76 -/
def impl_Wide_cell.f (a0_0 : Int) (a0_1 : Int) (a0_2 : Int) (a0_3 : Int) (l0_4 : List ByteArray) (a1 : Int) : Option (Int × Int) := (impl_Wide_stripe.f a0_0 a0_1 a0_2 a0_3 l0_4).bind fun t153 => (if t153 = 0 then (none) else (if a0_2 = 0 then (none) else ((impl_Wide_stripe.f a0_0 a0_1 a0_2 a0_3 l0_4).bind fun t154 => (if t154 = 0 then (none) else (some (wrap64 (Int.tdiv (Int.tmod a1 t153) a0_2), wrap64 ((wrap64 ((wrap64 (Int.tdiv a1 t154)) * a0_2)) + (Int.tmod a1 a0_2))))))))
def impl_Wide_cell.T1 : Bool × List (List Nat × List Nat) := (true, [([], []), ([], []), ([1], [1]), ([0, 2], [0, 2]), ([], []), ([4], [4]), ([3, 5], [3, 5]), ([], []), ([], []), ([8, 2], [8]), ([7, 9], [7, 9]), ([], []), ([11], [11]), ([10, 12], [10, 12]), ([], []), ([], []), ([15], [15]), ([14, 16], [14, 16]), ([13, 17], [13, 17]), ([6, 9, 0, 1, 2, 3, 4, 5, 6], [6]), ([18, 19, 0, 1, 2, 3, 4, 5, 6, 7, 8, 9, 10, 11, 12, 13, 14, 15, 16, 17, 18, 19], [18])])
def impl_Wide_cell.B1 : List Nat := [0, 0, 2, 7, 0, 16, 63, 0, 0, 262, 902, 0, 2048, 8070, 0, 0, 32768, 114688, 262022, 895, 1048575]
theorem impl_Wide_cell.tab1 : rtab .any (opsOf Try.f76 1) = impl_Wide_cell.T1 := by kernel_rfl
theorem impl_Wide_cell.bits1 : waitsOk impl_Wide_cell.T1.2 impl_Wide_cell.B1 = true := by kernel_rfl
set_option maxHeartbeats 8000000 in
set_option maxRecDepth 100000 in
theorem impl_Wide_cell.calls (a0_0 : Int) (a0_1 : Int) (a0_2 : Int) (a0_3 : Int) (A0_4 : Option Addr) (c0_4 : Nat) (l0_4 : List ByteArray) (a1 : Int) (r1 : Int) (r2 : Int) (w : World) (hr0_4 : Kd.C Kd.string w A0_4 l0_4.length l0_4) (hc0_4 : l0_4.length ≤ c0_4) (h : impl_Wide_cell.f a0_0 a0_1 a0_2 a0_3 l0_4 a1 = some (r1, r2)) :
  Calls Try.prog 76 #[.agg #[.int .i64 a0_0, .int .i64 a0_1, .int .i64 a0_2, .int .i64 a0_3, .slice A0_4 l0_4.length c0_4], .int .i64 a1] w fun e w' => e = .returned (.tuple #[.int .i64 r1, .int .i64 r2]) ∧ Below w.heap.size w w' := by
 have hu32 := Try.underlying32
 have HR0_4 := am hr0_4
 have HC0_4 := am hc0_4
 clear hr0_4 hc0_4
 have HB := am (Below.refl w.heap.size w)
 have H : ((impl_Wide_stripe.f a0_0 a0_1 a0_2 a0_3 l0_4).bind fun t153 => (if t153 = 0 then (none) else (if a0_2 = 0 then (none) else ((impl_Wide_stripe.f a0_0 a0_1 a0_2 a0_3 l0_4).bind fun t154 => (if t154 = 0 then (none) else (some (wrap64 (Int.tdiv (Int.tmod a1 t153) a0_2), wrap64 ((wrap64 ((wrap64 (Int.tdiv a1 t154)) * a0_2)) + (Int.tmod a1 a0_2))))))))) = some (r1, r2) := h
 clear h
 replace H := Option.bind_eq_some_iff.mp H
 obtain ⟨t153, A30, H⟩ := H
 replace H : (if t153 = 0 then (none) else (if a0_2 = 0 then (none) else ((impl_Wide_stripe.f a0_0 a0_1 a0_2 a0_3 l0_4).bind fun t154 => (if t154 = 0 then (none) else (some (wrap64 (Int.tdiv (Int.tmod a1 t153) a0_2), wrap64 ((wrap64 ((wrap64 (Int.tdiv a1 t154)) * a0_2)) + (Int.tmod a1 a0_2)))))))) = some (r1, r2) := H
 have A3 := am A30
 clear A30
 by_cases c4 : t153 = 0
 ·rw [if_pos c4] at H
  exact absurd H (by simp)
 ·rw [if_neg c4] at H
  have c4b0 : (t153 == 0) = false := beq_eq_false_iff_ne.mpr c4
  have c4b1 : (t153 != 0) = true := bne_iff_ne.mpr c4
  by_cases c5 : a0_2 = 0
  ·rw [if_pos c5] at H
   exact absurd H (by simp)
  ·rw [if_neg c5] at H
   have c5b0 : (a0_2 == 0) = false := beq_eq_false_iff_ne.mpr c5
   have c5b1 : (a0_2 != 0) = true := bne_iff_ne.mpr c5
   replace H := Option.bind_eq_some_iff.mp H
   obtain ⟨t154, A60, H⟩ := H
   replace H : (if t154 = 0 then (none) else (some (wrap64 (Int.tdiv (Int.tmod a1 t153) a0_2), wrap64 ((wrap64 ((wrap64 (Int.tdiv a1 t154)) * a0_2)) + (Int.tmod a1 a0_2))))) = some (r1, r2) := H
   have A6 := am A60
   clear A60
   by_cases c7 : t154 = 0
   ·rw [if_pos c7] at H
    exact absurd H (by simp)
   ·rw [if_neg c7] at H
    have c7b0 : (t154 == 0) = false := beq_eq_false_iff_ne.mpr c7
    have c7b1 : (t154 != 0) = true := bne_iff_ne.mpr c7
    simp only [Option.some.injEq, Prod.mk.injEq] at H
    obtain ⟨rfl, rfl⟩ := H
    go_enter Try.func76, Try.ntmps76
    try go_wp2_with (first | ((with_reducible refine gate_dst (N := 2) rfl ?_); refine box_event ?hg (N := 2) ?hd (cs := #[.int .i64 a0_0, .int .i64 a0_1, .int .i64 a0_2, .int .i64 a0_3, .slice A0_4 l0_4.length c0_4]) (t := 32) ?hr ?_; (case hd => rfl); (case hg => rfl); (case hr => first | (go_simp; done) | (go_simp; rfl)); intro gb152 hg w8 hbox hb; have n0_ := am (below_step (by repeat (first | (with_reducible first | exact HB.out | apply bal | apply pdn | apply bd1) | exact HB.out)) hb); have n1_ := am (hbox); have n2_ := am ((by rw [hg]; exact (below_size (by repeat (first | (with_reducible first | exact HB.out | apply bal | apply pdn | apply bd1) | exact HB.out))) : w.heap.size ≤ gb152)); have n3_ := am ((by rw [hg]; exact (below_size (by repeat (first | (with_reducible first | exact HB.out | apply bal | apply pdn | apply bd1) | exact HB.out))) : w.heap.size ≤ gb152)); clear HB; have HB := n0_; have BK152 := n1_; have GW152 := n2_; have GE152 := n3_; clear n0_ n1_ n2_ n3_; clear hb hbox hg))
    have n0_ := am (kdr BK152.out)
    have n1_ := am (bd1 HB.out)
    clear BK152
    clear HB
    have BK152 := n0_
    have HB := n1_
    clear n0_ n1_
    refine start_ (n := 21) (S := fun w' => w'.cell? ⟨gb152, 0, none⟩ = some (.int .i64 a0_0) ∧ w'.cell? ⟨gb152, 1, none⟩ = some (.int .i64 a0_1) ∧ w'.cell? ⟨gb152, 2, none⟩ = some (.int .i64 a0_2) ∧ w'.cell? ⟨gb152, 3, none⟩ = some (.int .i64 a0_3) ∧ w'.cell? ⟨gb152, 4, none⟩ = some (.slice A0_4 l0_4.length c0_4)) (ds := []) #[false, false, false, false, false, false, false, false, false, false, false, false, false, false, false, false, false, false, false, false, false] (by kernel_rfl) rfl rfl ⟨(kce BK152.out 0).trans rfl, (kce BK152.out 1).trans rfl, (kce BK152.out 2).trans rfl, (kce BK152.out 3).trans rfl, (kce BK152.out 4).trans rfl⟩ (fun hHeld => ?_); refine with_tabW impl_Wide_cell.tab1 impl_Wide_cell.bits1 (fun HT_ HW_ => ?_)
    generalize w8.drew = w9 at BK152 HB hHeld ⊢
    refine pure_ (i := 0) (N := some 6) (v := ?_) (a' := ?_) #[true, false, false, false, false, false, false, false, false, false, false, false, false, false, false, false, false, false, false, false, false] rfl rfl (any_of HT_.out (by kernel_rfl)) (fun _ _ _ h => h) (Or.inl ⟨by rfl, ?_⟩) ?_ ?_
    rotate_left
    ·intro w'
     go_simp
     with_reducible rfl
    rotate_left
    ·simp only [Act.put, sit, scz, scs, i64_w, i32_w]
     rfl
    refine pure_ (i := 4) (N := some 10) (v := ?_) (a' := ?_) #[true, false, false, false, true, false, false, false, false, false, false, false, false, false, false, false, false, false, false, false, false] rfl rfl (any_of HT_.out (by kernel_rfl)) (fun _ _ _ h => h) (Or.inl ⟨by rfl, ?_⟩) ?_ ?_
    rotate_left
    ·intro w'
     go_simp
     with_reducible rfl
    rotate_left
    ·simp only [Act.put, sit, scz, scs, i64_w, i32_w]
     rfl
    refine pure_ (i := 7) (N := some 13) (v := ?_) (a' := ?_) #[true, false, false, false, true, false, false, true, false, false, false, false, false, false, false, false, false, false, false, false, false] rfl rfl (any_of HT_.out (by kernel_rfl)) (fun _ _ _ h => h) (Or.inl ⟨by rfl, ?_⟩) ?_ ?_
    rotate_left
    ·intro w'
     go_simp
     with_reducible rfl
    rotate_left
    ·simp only [Act.put, sit, scz, scs, i64_w, i32_w]
     rfl
    refine pure_ (i := 11) (N := some 17) (v := ?_) (a' := ?_) #[true, false, false, false, true, false, false, true, false, false, false, true, false, false, false, false, false, false, false, false, false] rfl rfl (any_of HT_.out (by kernel_rfl)) (fun _ _ _ h => h) (Or.inl ⟨by rfl, ?_⟩) ?_ ?_
    rotate_left
    ·intro w'
     go_simp
     with_reducible rfl
    rotate_left
    ·simp only [Act.put, sit, scz, scs, i64_w, i32_w]
     rfl
    refine pure_ (i := 14) (N := some 20) (v := ?_) (a' := ?_) #[true, false, false, false, true, false, false, true, false, false, false, true, false, false, true, false, false, false, false, false, false] rfl rfl (any_of HT_.out (by kernel_rfl)) (fun _ _ _ h => h) (Or.inl ⟨by rfl, ?_⟩) ?_ ?_
    rotate_left
    ·intro w'
     go_simp
     with_reducible rfl
    rotate_left
    ·simp only [Act.put, sit, scz, scs, i64_w, i32_w]
     rfl
    refine pure_ (i := 15) (N := some 21) (v := ?_) (a' := ?_) #[true, false, false, false, true, false, false, true, false, false, false, true, false, false, true, true, false, false, false, false, false] rfl rfl (any_of HT_.out (by kernel_rfl)) (fun _ _ _ h => h) (Or.inl ⟨by rfl, ?_⟩) ?_ ?_
    rotate_left
    ·intro w'
     go_simp
     with_reducible rfl
    rotate_left
    ·simp only [Act.put, sit, scz, scs, i64_w, i32_w]
     rfl
    refine take_ (i := 1) (N := some 7) (v := ?_) (a' := ?_) #[true, true, false, false, true, false, false, true, false, false, false, true, false, false, true, true, false, false, false, false, false] rfl rfl (take_ofW HT_.out HW_.out (by kernel_rfl)) (fun _ _ _ h => h) (Or.inl ⟨by rfl, ?_⟩) hHeld ?_ ?_
    rotate_left
    ·rintro w' ⟨s0, s1, s2, s3, s4⟩
     go_simp
     with_reducible rfl
    rotate_left
    ·simp only [Act.put, sit, scz, scs, i64_w, i32_w]
     rfl
    refine take_ (i := 5) (N := some 11) (v := ?_) (a' := ?_) #[true, true, false, false, true, true, false, true, false, false, false, true, false, false, true, true, false, false, false, false, false] rfl rfl (take_ofW HT_.out HW_.out (by kernel_rfl)) (fun _ _ _ h => h) (Or.inl ⟨by rfl, ?_⟩) hHeld ?_ ?_
    rotate_left
    ·rintro w' ⟨s0, s1, s2, s3, s4⟩
     go_simp
     with_reducible rfl
    rotate_left
    ·simp only [Act.put, sit, scz, scs, i64_w, i32_w]
     rfl
    refine take_ (i := 8) (N := some 14) (v := ?_) (a' := ?_) #[true, true, false, false, true, true, false, true, true, false, false, true, false, false, true, true, false, false, false, false, false] rfl rfl (take_ofW HT_.out HW_.out (by kernel_rfl)) (fun _ _ _ h => h) (Or.inl ⟨by rfl, ?_⟩) hHeld ?_ ?_
    rotate_left
    ·rintro w' ⟨s0, s1, s2, s3, s4⟩
     go_simp
     with_reducible rfl
    rotate_left
    ·simp only [Act.put, sit, scz, scs, i64_w, i32_w]
     rfl
    refine take_ (i := 12) (N := some 18) (v := ?_) (a' := ?_) #[true, true, false, false, true, true, false, true, true, false, false, true, true, false, true, true, false, false, false, false, false] rfl rfl (take_ofW HT_.out HW_.out (by kernel_rfl)) (fun _ _ _ h => h) (Or.inl ⟨by rfl, ?_⟩) hHeld ?_ ?_
    rotate_left
    ·rintro w' ⟨s0, s1, s2, s3, s4⟩
     go_simp
     with_reducible rfl
    rotate_left
    ·simp only [Act.put, sit, scz, scs, i64_w, i32_w]
     rfl
    refine take_ (i := 16) (N := some 22) (v := ?_) (a' := ?_) #[true, true, false, false, true, true, false, true, true, false, false, true, true, false, true, true, true, false, false, false, false] rfl rfl (take_ofW HT_.out HW_.out (by kernel_rfl)) (fun _ _ _ h => h) (Or.inl ⟨by rfl, ?_⟩) hHeld ?_ ?_
    rotate_left
    ·rintro w' ⟨s0, s1, s2, s3, s4⟩
     go_simp
     with_reducible rfl
    rotate_left
    ·simp only [Act.put, sit, scz, scs, i64_w, i32_w]
     rfl
    refine pure_ (i := 17) (N := some 23) (v := ?_) (a' := ?_) #[true, true, false, false, true, true, false, true, true, false, false, true, true, false, true, true, true, true, false, false, false] rfl rfl (any_of HT_.out (by kernel_rfl)) (fun _ _ _ h => h) (Or.inl ⟨by rfl, ?_⟩) ?_ ?_
    rotate_left
    ·intro w'
     go_simp
     with_reducible rfl
    rotate_left
    ·simp only [Act.put, sit, scz, scs, i64_w, i32_w]
     rfl
    refine one_ (i := 2) (N := some 8) #[true, true, true, false, true, true, false, true, true, false, false, true, true, false, true, true, true, true, false, false, false] rfl rfl (one_of HT_.out (by kernel_rfl)) (by decide) (fun K hK => ?_)
    refine goes_ Try.func80 (by kernel_rfl) rfl #[.agg #[.int .i64 a0_0, .int .i64 a0_1, .int .i64 a0_2, .int .i64 a0_3, .slice A0_4 l0_4.length c0_4]] (by rfl) rfl rfl (by (try simp only [mta, mco, mni]); first | done | rfl | (simp only [lnd, lnt]; rfl)) ?_
    with_reducible refine (impl_Wide_stripe.calls a0_0 a0_1 a0_2 a0_3 _ _ l0_4 t153 _ ?side1 ?side2 A3.out).mono ?_
    (case side1 => repeat (first | exact (Kd.C_below HR0_4.out HB.out) | (with_reducible first | apply kca | apply kcn | apply kcd)))
    (case side2 => exact HC0_4.out)
    rintro e w10 ⟨rfl, hb⟩
    refine ⟨_, rfl, ?_⟩
    have n0_ := am (kbb (g := gb152) (o := .cells #[.int .i64 a0_0, .int .i64 a0_1, .int .i64 a0_2, .int .i64 a0_3, .slice A0_4 l0_4.length c0_4] 32 (0, 0)) (by (with_reducible repeat (first | apply kdn | apply kdr | apply kal)); exact BK152.out) hb)
    have n1_ := am (below_step (by repeat (first | (with_reducible first | exact HB.out | apply bal | apply pdn | apply bd1 | refine bst ?_ GE152.out) | exact HB.out)) hb)
    clear BK152
    clear HB
    have BK152 := n0_
    have HB := n1_
    clear n0_ n1_
    refine hK.out _ _ ⟨(kce BK152.out 0).trans rfl, (kce BK152.out 1).trans rfl, (kce BK152.out 2).trans rfl, (kce BK152.out 3).trans rfl, (kce BK152.out 4).trans rfl⟩ (fun hHeld => ?_)
    clear hK K
    refine norm_ (a' := ?_) ?_ ?_
    rotate_left
    ·show Act.put _ (some 8) _ = _
     simp only [Act.put, sit, scz, scs, i64_w, i32_w]
     rfl
    refine pure_ (i := 3) (N := some 9) (v := ?_) (a' := ?_) #[true, true, true, true, true, true, false, true, true, false, false, true, true, false, true, true, true, true, false, false, false] rfl rfl (any_of HT_.out (by kernel_rfl)) (fun _ _ _ h => h) (Or.inl ⟨by rfl, ?_⟩) ?_ ?_
    rotate_left
    ·intro w'
     go_simp
     with_reducible rfl
    rotate_left
    ·simp only [Act.put, sit, scz, scs, i64_w, i32_w]
     rfl
    refine pure_ (i := 6) (N := some 12) (v := ?_) (a' := ?_) #[true, true, true, true, true, true, true, true, true, false, false, true, true, false, true, true, true, true, false, false, false] rfl rfl (any_of HT_.out (by kernel_rfl)) (fun _ _ _ h => h) (Or.inl ⟨by rfl, ?_⟩) ?_ ?_
    rotate_left
    ·intro w'
     go_simp
     with_reducible rfl
    rotate_left
    ·simp only [Act.put, sit, scz, scs, i64_w, i32_w]
     rfl
    refine one_ (i := 9) (N := some 15) #[true, true, true, true, true, true, true, true, true, true, false, true, true, false, true, true, true, true, false, false, false] rfl rfl (one_of HT_.out (by kernel_rfl)) (by decide) (fun K hK => ?_)
    refine goes_ Try.func80 (by kernel_rfl) rfl #[.agg #[.int .i64 a0_0, .int .i64 a0_1, .int .i64 a0_2, .int .i64 a0_3, .slice A0_4 l0_4.length c0_4]] (by rfl) rfl rfl (by (try simp only [mta, mco, mni]); first | done | rfl | (simp only [lnd, lnt]; rfl)) ?_
    with_reducible refine (impl_Wide_stripe.calls a0_0 a0_1 a0_2 a0_3 _ _ l0_4 t154 _ ?side1 ?side2 A6.out).mono ?_
    (case side1 => repeat (first | exact (Kd.C_below HR0_4.out HB.out) | (with_reducible first | apply kca | apply kcn | apply kcd)))
    (case side2 => exact HC0_4.out)
    rintro e w11 ⟨rfl, hb⟩
    refine ⟨_, rfl, ?_⟩
    have n0_ := am (kbb (g := gb152) (o := .cells #[.int .i64 a0_0, .int .i64 a0_1, .int .i64 a0_2, .int .i64 a0_3, .slice A0_4 l0_4.length c0_4] 32 (0, 0)) (by (with_reducible repeat (first | apply kdn | apply kdr | apply kal)); exact BK152.out) hb)
    have n1_ := am (below_step (by repeat (first | (with_reducible first | exact HB.out | apply bal | apply pdn | apply bd1 | refine bst ?_ GE152.out) | exact HB.out)) hb)
    clear BK152
    clear HB
    have BK152 := n0_
    have HB := n1_
    clear n0_ n1_
    refine hK.out _ _ ⟨(kce BK152.out 0).trans rfl, (kce BK152.out 1).trans rfl, (kce BK152.out 2).trans rfl, (kce BK152.out 3).trans rfl, (kce BK152.out 4).trans rfl⟩ (fun hHeld => ?_)
    clear hK K
    refine norm_ (a' := ?_) ?_ ?_
    rotate_left
    ·show Act.put _ (some 15) _ = _
     simp only [Act.put, sit, scz, scs, i64_w, i32_w]
     rfl
    refine pure_ (i := 10) (N := some 16) (v := ?_) (a' := ?_) #[true, true, true, true, true, true, true, true, true, true, true, true, true, false, true, true, true, true, false, false, false] rfl rfl (any_of HT_.out (by kernel_rfl)) (fun _ _ _ h => h) (Or.inl ⟨by rfl, ?_⟩) ?_ ?_
    rotate_left
    ·intro w'
     go_simp
     with_reducible rfl
    rotate_left
    ·simp only [Act.put, sit, scz, scs, i64_w, i32_w]
     rfl
    refine pure_ (i := 13) (N := some 19) (v := ?_) (a' := ?_) #[true, true, true, true, true, true, true, true, true, true, true, true, true, true, true, true, true, true, false, false, false] rfl rfl (any_of HT_.out (by kernel_rfl)) (fun _ _ _ h => h) (Or.inl ⟨by rfl, ?_⟩) ?_ ?_
    rotate_left
    ·intro w'
     go_simp
     with_reducible rfl
    rotate_left
    ·simp only [Act.put, sit, scz, scs, i64_w, i32_w]
     rfl
    refine pure_ (i := 18) (N := some 24) (v := ?_) (a' := ?_) #[true, true, true, true, true, true, true, true, true, true, true, true, true, true, true, true, true, true, true, false, false] rfl rfl (any_of HT_.out (by kernel_rfl)) (fun _ _ _ h => h) (Or.inl ⟨by rfl, ?_⟩) ?_ ?_
    rotate_left
    ·intro w'
     go_simp
     with_reducible rfl
    rotate_left
    ·simp only [Act.put, sit, scz, scs, i64_w, i32_w]
     rfl
    refine pure_ (i := 19) (N := some 4) (v := ?_) (a' := ?_) #[true, true, true, true, true, true, true, true, true, true, true, true, true, true, true, true, true, true, true, true, false] rfl rfl (any_of HT_.out (by kernel_rfl)) (fun _ _ _ h => h) (Or.inl ⟨by rfl, ?_⟩) ?_ ?_
    rotate_left
    ·intro w'
     go_simp
     with_reducible rfl
    rotate_left
    ·simp only [Act.put, sit, scz, scs, i64_w, i32_w]
     rfl
    refine pure_ (i := 20) (N := some 5) (v := ?_) (a' := ?_) #[true, true, true, true, true, true, true, true, true, true, true, true, true, true, true, true, true, true, true, true, true] rfl rfl (any_of HT_.out (by kernel_rfl)) (fun _ _ _ h => h) (Or.inl ⟨by rfl, ?_⟩) ?_ ?_
    rotate_left
    ·intro w'
     go_simp
     with_reducible rfl
    rotate_left
    ·simp only [Act.put, sit, scz, scs, i64_w, i32_w]
     rfl
    refine done_ (done_of HT_.out (by kernel_rfl)) ?_
    try go_wp2
    go_ret2
    exact ⟨by first | rfl | (simp [errW_none, errW_some] <;> rfl) | (simp [*, errW_none, errW_some] <;> rfl), by repeat (first | (with_reducible first | exact HB.out | apply bal | apply pdn | apply bd1 | refine bst ?_ GE152.out) | exact HB.out)⟩

/-! ### impl_Wide_body: function 40 -/
/- The table of numbers by hand: the shelf's own word asks for a type (the empty interface) that no body of this closure names. -/
def impl_Wide_body_lw_ren : Go.Shelf.Ren := ⟨fun | 167 => 77 | 240 => 107 | 276 => 113 | n => n, fun | 0 => 0 | 4 => 4 | 5 => 5 | 9 => 9 | 20 => 20 | 37 => 107 | 70 => 112 | 72 => 114 | 75 => 117 | 164 => 140 | 80 => 119 | n => n, fun n => n⟩
theorem impl_Wide_body_lw : Lays.n167 Try.prog impl_Wide_body_lw_ren where
 mixed := by kernel_rfl
 f167 := Try.func77.trans (congrArg some (by kernel_rfl))
 f240 := Try.func107.trans (congrArg some (by kernel_rfl))
 f276 := Try.func113.trans (congrArg some (by kernel_rfl))
 t0 := Try.underlying0
 a0 := Try.isAgg0
 z0 := Try.sizeOf0
 v0 := Try.zeroValue0
 t4 := Try.underlying4
 a4 := Try.isAgg4
 z4 := Try.sizeOf4
 v4 := Try.zeroValue4
 t5 := Try.underlying5
 a5 := Try.isAgg5
 z5 := Try.sizeOf5
 v5 := Try.zeroValue5
 t9 := Try.underlying9
 a9 := Try.isAgg9
 z9 := Try.sizeOf9
 v9 := Try.zeroValue9
 t20 := Try.underlying20
 a20 := Try.isAgg20
 z20 := Try.sizeOf20
 v20 := Try.zeroValue20
 t37 := Try.underlying107
 a37 := Try.isAgg107
 z37 := Try.sizeOf107
 v37 := Try.zeroValue107
 t70 := Try.underlying112
 a70 := Try.isAgg112
 z70 := Try.sizeOf112
 v70 := Try.zeroValue112
 t72 := Try.underlying114
 a72 := Try.isAgg114
 z72 := Try.sizeOf114
 v72 := Try.zeroValue114
 t75 := Try.underlying117
 a75 := Try.isAgg117
 z75 := Try.sizeOf117
 v75 := Try.zeroValue117
 t164 := Try.underlying140
 a164 := Try.isAgg140
 z164 := Try.sizeOf140
 v164 := Try.zeroValue140
open Go.Shelf Go.Lib in
shelf_lay Lays.n169 Nm 169 at Try as impl_Wide_body_ls
open Go.Shelf Go.Lib in
theorem impl_Wide_body.extraW : Builder.Extra Try.prog impl_Wide_body_lw_ren where
 sizeBuilder := by kernel_rfl
 liesBuilder := by kernel_rfl
 t5 := impl_Wide_body_lw.t5
 a5 := impl_Wide_body_lw.a5
 z5 := impl_Wide_body_lw.z5
 v5 := impl_Wide_body_lw.v5
 infoByte := by kernel_rfl
 cellsByte := by kernel_rfl
 sizeByte := by kernel_rfl
 neB5 := by decide
open Go.Shelf Go.Lib in
theorem impl_Wide_body.extraS : Builder.Extra Try.prog impl_Wide_body_ls_ren where
 sizeBuilder := by kernel_rfl
 liesBuilder := by kernel_rfl
 t5 := impl_Wide_body_lw.t5
 a5 := impl_Wide_body_lw.a5
 z5 := impl_Wide_body_lw.z5
 v5 := impl_Wide_body_lw.v5
 infoByte := by kernel_rfl
 cellsByte := by kernel_rfl
 sizeByte := by kernel_rfl
 neB5 := by decide
theorem impl_Wide_body.numW : impl_Wide_body_lw_ren.f 167 = 77 := by kernel_rfl
theorem impl_Wide_body.numS : impl_Wide_body_ls_ren.f 169 = 78 := by kernel_rfl
theorem impl_Wide_body.tW : impl_Wide_body_lw_ren.t 72 = 114 ∧ impl_Wide_body_lw_ren.t 5 = 5 := ⟨by kernel_rfl, by kernel_rfl⟩
theorem impl_Wide_body.tS : impl_Wide_body_ls_ren.t 72 = 114 ∧ impl_Wide_body_ls_ren.t 5 = 5 := ⟨by kernel_rfl, by kernel_rfl⟩
abbrev impl_Wide_body.Bld (B b : Nat) (bs : List Value) (w : World) : Prop := Go.Lib.IsBuilder 114 5 B b bs w
theorem impl_Wide_body.below {B b : Nat} {bs : List Value} {w w' : World} (h : impl_Wide_body.Bld B b bs w) (hb : Below w.heap.size w w') : impl_Wide_body.Bld B b bs w' := by
 have key : ∀ p, Go.Lib.BuilderAt 114 5 B b p bs w → Go.Lib.BuilderAt 114 5 B b p bs w' := fun p ⟨h1, v, h2, h3, h4⟩ =>
  ⟨h1, v, (hb.block b (Array.getElem?_eq_some_iff.1 h2).1).trans h2, pw_own_below h3 hb, h4⟩
 exact h.imp (key _) (key _)
theorem impl_Wide_body.write (B b : Nat) (bs : List Value) (c : Int) (w : World) (h : impl_Wide_body.Bld B b bs w) (hlen : bs.length + 1 ≤ 140737488355328) (hB : B ≤ w.heap.size) :
  Calls Try.prog 77 #[.pointer (some ⟨b, 0, none⟩), .int .u8 c] w fun e w' => e = .returned .nilIface ∧ impl_Wide_body.Bld B b (bs ++ [.int .u8 c]) w' ∧ Below B w w' := by
 have h1 := Go.Proofs.Any.Builder_WriteByte impl_Wide_body_lw impl_Wide_body.extraW B b bs c w (by rw [impl_Wide_body.tW.1, impl_Wide_body.tW.2]; exact h) hlen hB
 rw [impl_Wide_body.numW, impl_Wide_body.tW.1, impl_Wide_body.tW.2] at h1
 exact h1.mono fun e w' ⟨he, hb, hw⟩ => ⟨he, .inr hb, hw⟩
theorem impl_Wide_body.str (B b : Nat) (l : List UInt8) (w : World) (h : impl_Wide_body.Bld B b (Go.Lib.byteCells l) w) (hB : B ≤ w.heap.size) :
  Calls Try.prog 78 #[.pointer (some ⟨b, 0, none⟩)] w fun e w' => e = .returned (.string ⟨l.toArray⟩) ∧ Below B w w' := by
 have h1 := Go.Proofs.Any.Builder_String_any impl_Wide_body_ls impl_Wide_body.extraS B b l w (by rw [impl_Wide_body.tS.1, impl_Wide_body.tS.2]; exact h) hB
 rw [impl_Wide_body.numS] at h1
 exact h1
/-- The bytes from a place on, so many of them. -/
def impl_Wide_body.bytes (K M U Z : Int) (l cols : List ByteArray) : Nat → Nat → Option (List UInt8)
 | 0, _ => some []
 | n + 1, p => (impl_Wide_cell.f K M U Z l (p : Int)).bind fun co =>
   if 0 ≤ co.1 ∧ co.1 < (cols.length : Int) ∧ 0 ≤ co.2 ∧ co.2 < ((rdOf ByteArray.empty cols co.1).size : Int) then (impl_Wide_body.bytes K M U Z l cols n (p + 1)).map fun L => (rdOf ByteArray.empty cols co.1).data.toList.getD co.2.toNat 0 :: L else none
def impl_Wide_body.f (K M U Z : Int) (l cols : List ByteArray) (a n : Int) : Option (ByteArray) :=
 if 0 ≤ a ∧ 0 ≤ n ∧ a + n ≤ 1000000 then (impl_Wide_body.bytes K M U Z l cols n.toNat a.toNat).map fun L => ⟨L.toArray⟩ else none
set_option maxHeartbeats 4000000 in
set_option maxRecDepth 100000 in
theorem impl_Wide_body.calls (K : Int) (M : Int) (U : Int) (Z : Int) (A0_4 : Option Addr) (c0_4 : Nat) (l : List ByteArray) (A1 : Option Addr) (c1 : Nat) (cols : List ByteArray) (a2 : Int) (a3 : Int) (r : ByteArray) (w : World) (hr0_4 : Kd.C Kd.string w A0_4 l.length l) (hc0_4 : l.length ≤ c0_4) (hr1 : Kd.C Kd.string w A1 cols.length cols) (hc1 : cols.length ≤ c1) (h : impl_Wide_body.f K M U Z l cols a2 a3 = some r) :
  Calls Try.prog 40 #[.agg #[.int .i64 K, .int .i64 M, .int .i64 U, .int .i64 Z, .slice A0_4 l.length c0_4], .slice A1 cols.length c1, .int .i64 a2, .int .i64 a3] w fun e w' => e = .returned (.string r) ∧ Below w.heap.size w w' := by
 unfold impl_Wide_body.f at h
 split at h
 case isFalse => cases h
 rename_i hcc
 obtain ⟨h0, h1, h2⟩ := hcc
 obtain ⟨a, rfl⟩ := Int.eq_ofNat_of_zero_le h0
 obtain ⟨n, rfl⟩ := Int.eq_ofNat_of_zero_le h1
 rw [Int.toNat_natCast, Int.toNat_natCast] at h
 obtain ⟨T, hT, rfl⟩ := Option.map_eq_some_iff.1 h
 have HT := am hT
 have HN := am h2
 have HWR : Aside0 (wrap64 ((a : Int) + (n : Int)) = (a : Int) + (n : Int)) := ⟨by unfold wrap64; omega⟩
 have HR0 := am hr0_4
 have HR1 := am hr1
 have HC0 := am hc0_4
 clear h hT h0 h1 h2 hr0_4 hc0_4 hr1 hc1
 obtain ⟨W2, hW2⟩ : ∃ W2, W2 = (w.alloc (.cells #[.int .i64 K, .int .i64 M, .int .i64 U, .int .i64 Z, .slice A0_4 l.length c0_4] 32)).alloc (.cells #[.pointer none, .slice none 0 0] 114) := ⟨_, rfl⟩
 have hBW : Below w.heap.size w W2 := by rw [hW2]; exact ((Below.refl _ _).alloc (Nat.le_refl _) _).alloc (by simp) _
 have hz2 : W2.heap.size = w.heap.size + 2 := by rw [hW2]; simp
 have HS : Aside0 (∀ w', Below (w.heap.size + 1) W2 w' → (w'.cell? ⟨w.heap.size, 0, none⟩ = some (.int .i64 K) ∧ w'.cell? ⟨w.heap.size, 1, none⟩ = some (.int .i64 M) ∧ w'.cell? ⟨w.heap.size, 2, none⟩ = some (.int .i64 U) ∧ w'.cell? ⟨w.heap.size, 3, none⟩ = some (.int .i64 Z) ∧ w'.cell? ⟨w.heap.size, 4, none⟩ = some (.slice A0_4 l.length c0_4) ∧ Below w.heap.size w w')) := ⟨fun w' hb => by
  have e : ∀ (i : Nat) (v : Value), W2.cell? ⟨w.heap.size, i, none⟩ = some v → w'.cell? ⟨w.heap.size, i, none⟩ = some v := fun i v hp => (hb.cell (p := ⟨w.heap.size, i, none⟩) (Nat.lt_succ_self _)).trans hp
  exact ⟨e _ _ (by rw [hW2]; simp), e _ _ (by rw [hW2]; simp), e _ _ (by rw [hW2]; simp), e _ _ (by rw [hW2]; simp), e _ _ (by rw [hW2]; simp), hBW.trans (hb.mono (Nat.le_succ _))⟩⟩
 have HB0 : Aside0 (impl_Wide_body.Bld (w.heap.size + 1) (w.heap.size + 1) (Go.Lib.byteCells []) W2) := ⟨.inl ⟨Nat.le_refl _, .slice none 0 0, by rw [hW2]; simpa using Go.heap_alloc_new (w.alloc (.cells #[.int .i64 K, .int .i64 M, .int .i64 U, .int .i64 Z, .slice A0_4 l.length c0_4] 32)) _, own_nil _ _ _ _, by simp [Value.ownBlock]⟩⟩
 have HZ2 := am hz2
 have HW2 := am hW2
 clear hBW hz2 hW2
 go_enter Try.func40, Try.ntmps40
 go_wp2
 rw [← HW2.out]
 go_loopg [10] n (fun gg s10 wr => ∃ (j : Nat) (pre rest : List UInt8), s10 = .int .i64 ((a : Int) + (j : Int)) ∧ Aside0 (j ≤ n ∧ n - j ≤ gg ∧ pre ++ rest = T ∧ pre.length = j ∧ impl_Wide_body.bytes K M U Z l cols (n - j) (a + j) = some rest) ∧ Aside0 (impl_Wide_body.Bld (w.heap.size + 1) (w.heap.size + 1) (Go.Lib.byteCells pre) wr) ∧ Aside0 (Below (w.heap.size + 1) W2 wr))
 case atStart => exact ⟨0, [], T, by simp, ⟨Nat.zero_le _, Nat.le_refl _, rfl, rfl, HT.out⟩, HB0, ⟨Below.refl _ _⟩⟩
 case round =>
  obtain ⟨j, pre, rest, rfl, HJ, HB, HW⟩ := hrel
  have hj := HJ.out
  have hn2 := HN.out
  by_cases hlt : j < n
  ·obtain ⟨m, hm⟩ : ∃ m, n - j = m + 1 := ⟨n - j - 1, by omega⟩
   have hby := hj.2.2.2.2
   rw [hm] at hby
   obtain ⟨⟨co1, co2⟩, hcell, hrest⟩ := Option.bind_eq_some_iff.1 hby
   simp only at hrest
   rw [Int.natCast_add] at hcell
   split at hrest
   case isFalse => cases hrest
   rename_i hcc
   obtain ⟨i0, i1, i2, i3⟩ := hcc
   obtain ⟨L, hL, hLr⟩ := Option.map_eq_some_iff.1 hrest
   have HL := am (And.intro hL hLr)
   have HM := am hm
   have hltb : decide ((a : Int) + (j : Int) < wrap64 ((a : Int) + (n : Int))) = true := decide_eq_true (by rw [HWR.out]; omega)
   obtain ⟨z0, z1, z2, z3, z4, hbw⟩ := HS.out wr HW.out
   have HCALL := am (impl_Wide_cell.calls K M U Z A0_4 c0_4 l ((a : Int) + (j : Int)) co1 co2 wr (Kd.C_below HR0.out hbw) HC0.out hcell)
   obtain ⟨ad, e, hx⟩ := Kd.at_string HR1.out co1 i0 i1
   cases e
   replace hx := (hbw.cell (blc w _ hx)).trans hx
   have HHX := am hx
   have HLT := am hlt
   generalize hcol : rdOf ByteArray.empty cols co1 = col at HHX HL i3
   have hp0 : ((0 : Int) ≤ co1) = True := eq_true i0
   have hp1 : (co1 < (cols.length : Int)) = True := eq_true i1
   have hq0 : ((0 : Int) ≤ co2) = True := eq_true i2
   have hq1 : (co2 < (col.size : Int)) = True := eq_true i3
   clear hj hn2 hby hcell hrest hL hLr hm hlt hx hcol i0 i1 i2 i3 hbw
   have HCO : Aside0 (co2.toNat < col.size) := ⟨by have h1 := of_eq_true hq0; have h2 := of_eq_true hq1; omega⟩
   have HSZ : Aside0 (w.heap.size + 1 ≤ wr.heap.size) := ⟨by have := HW.out.size; have := HZ2.out; omega⟩
   have HLEN : Aside0 ((Go.Lib.byteCells pre).length + 1 ≤ 140737488355328) := ⟨by rw [Go.Lib.byteCells_length]; have := HJ.out; have := HN.out; omega⟩
   go_wp2_with (first | (go_at_call 76; refine HCALL.out.mono ?_; rintro e w3 ⟨rfl, hb3⟩; have HB3 := am hb3; have hx := (hb3.cell (blc wr _ HHX.out)).trans HHX.out; have HWB := am (impl_Wide_body.write _ _ (Go.Lib.byteCells pre) ((col[co2.toNat]'HCO.out).toNat : Int) w3 (impl_Wide_body.below HB.out hb3) HLEN.out (Nat.le_trans HSZ.out hb3.size)); clear hb3) | (go_at_call 77; refine HWB.out.mono ?_; rintro e w4 ⟨rfl, hb4, hbw4⟩; have HB4 := am hb4; have HBW4 := am hbw4; clear hb4 hbw4))
   go_roundg (n - (j + 1))
   case measure => have := HJ.out; have := HLT.out; omega
   case rel =>
    have hj := HJ.out
    have hn2 := HN.out
    have hl := HL.out
    have hlt := HLT.out
    have hm := HM.out
    have ec : col[co2.toNat]'HCO.out = col.data.toList.getD co2.toNat 0 := by
     have h' : co2.toNat < col.data.toList.length := by simpa using HCO.out
     have e1 : col.data.toList.getD co2.toNat 0 = col.data.toList[co2.toNat] := by simp only [List.getD, List.getElem?_eq_getElem h', Option.getD_some]
     rw [e1, Array.getElem_toList]
     rfl
    refine ⟨j + 1, pre ++ [col.data.toList.getD co2.toNat 0], L, ?_, ⟨by omega, Nat.le_refl _, ?_, by simp; omega, ?_⟩, ⟨?_⟩, ⟨HW.out.trans ((HB3.out.mono HSZ.out).trans HBW4.out)⟩⟩
    ·first | go_num | (congr 1; unfold wrap64; omega)
    ·rw [List.append_assoc, ← hj.2.2.1]
     rw [← hl.2]
     rfl
    ·rw [show n - (j + 1) = m from by omega, show a + (j + 1) = a + j + 1 from by omega]
     exact hl.1
    ·have h4 := HB4.out
     rw [ec] at h4
     have e : Go.Lib.byteCells (pre ++ [col.data.toList.getD co2.toNat 0]) = Go.Lib.byteCells pre ++ [.int .u8 ((col.data.toList.getD co2.toNat 0).toNat : Int)] := by simp [Go.Lib.byteCells]
     rw [e]
     exact h4
  ·have hltb : decide ((a : Int) + (j : Int) < wrap64 ((a : Int) + (n : Int))) = false := decide_eq_false (by rw [HWR.out]; omega)
   have HE : Aside0 (pre = T) := ⟨by
    have e := hj.2.2.2.2
    rw [show n - j = 0 from by omega] at e
    obtain rfl := Option.some.inj e
    simpa using hj.2.2.1⟩
   have HSZ : Aside0 (w.heap.size + 1 ≤ wr.heap.size) := ⟨by have := HW.out.size; have := HZ2.out; omega⟩
   clear hj hn2 hlt
   go_wp2_with (go_at_call 78; refine (impl_Wide_body.str _ _ pre wr HB.out HSZ.out).mono ?_; rintro e w' ⟨rfl, hb⟩; have HQ := am hb; clear hb)
   go_ret
   exact ⟨by rw [HE.out] <;> rfl, (HS.out wr HW.out).2.2.2.2.2.trans (HQ.out.mono (Nat.le_succ _))⟩

/-! ### impl_WideBody: function 12 -/
def impl_WideBody.f (a0_0 : Int) (a0_1 : Int) (a0_2 : Int) (a0_3 : Int) (l0_4 : List ByteArray) : Option (ByteArray × Int) := (impl_WideOk.f a0_0 a0_1 a0_2 a0_3 l0_4).bind fun t156 => (if t156 = true then ((impl_Wide_body.f a0_0 a0_1 a0_2 a0_3 l0_4 l0_4 0 a0_3).bind fun t157 => (some (t157, 0))) else (some ((⟨#[]⟩ : ByteArray), 1)))
set_option maxHeartbeats 8000000 in
set_option maxRecDepth 100000 in
theorem impl_WideBody.calls (a0_0 : Int) (a0_1 : Int) (a0_2 : Int) (a0_3 : Int) (A0_4 : Option Addr) (c0_4 : Nat) (l0_4 : List ByteArray) (r1 : ByteArray) (r2 : Int) (w : World) (hr0_4 : Kd.C Kd.string w A0_4 l0_4.length l0_4) (hc0_4 : l0_4.length ≤ c0_4) (h : impl_WideBody.f a0_0 a0_1 a0_2 a0_3 l0_4 = some (r1, r2)) :
  Calls Try.prog 12 #[.agg #[.int .i64 a0_0, .int .i64 a0_1, .int .i64 a0_2, .int .i64 a0_3, .slice A0_4 l0_4.length c0_4]] w fun e w' => e = .returned (.tuple #[.string r1, .int .i64 r2]) ∧ Below w.heap.size w w' := by
 have hu32 := Try.underlying32
 have HR0_4 := am hr0_4
 have HC0_4 := am hc0_4
 clear hr0_4 hc0_4
 have HB := am (Below.refl w.heap.size w)
 have H : ((impl_WideOk.f a0_0 a0_1 a0_2 a0_3 l0_4).bind fun t156 => (if t156 = true then ((impl_Wide_body.f a0_0 a0_1 a0_2 a0_3 l0_4 l0_4 0 a0_3).bind fun t157 => (some (t157, 0))) else (some ((⟨#[]⟩ : ByteArray), 1)))) = some (r1, r2) := h
 clear h
 replace H := Option.bind_eq_some_iff.mp H
 obtain ⟨t156, A20, H⟩ := H
 replace H : (if t156 = true then ((impl_Wide_body.f a0_0 a0_1 a0_2 a0_3 l0_4 l0_4 0 a0_3).bind fun t157 => (some (t157, 0))) else (some ((⟨#[]⟩ : ByteArray), 1))) = some (r1, r2) := H
 have A2 := am A20
 clear A20
 by_cases c3 : t156 = true
 ·subst c3
  have H1 : ((impl_Wide_body.f a0_0 a0_1 a0_2 a0_3 l0_4 l0_4 0 a0_3).bind fun t157 => (some (t157, 0))) = some (r1, r2) := by rw [if_pos rfl] at H; exact H
  clear H
  have H := H1
  clear H1
  replace H := Option.bind_eq_some_iff.mp H
  obtain ⟨t157, A40, H⟩ := H
  replace H : (some (t157, 0)) = some (r1, r2) := H
  have A4 := am A40
  clear A40
  simp only [Option.some.injEq, Prod.mk.injEq] at H
  obtain ⟨rfl, rfl⟩ := H
  go_enter Try.func12, Try.ntmps12
  go_wp2_with (first | ((with_reducible refine gate_dst (N := 1) rfl ?_); refine box_event ?hg (N := 1) ?hd (cs := #[.int .i64 a0_0, .int .i64 a0_1, .int .i64 a0_2, .int .i64 a0_3, .slice A0_4 l0_4.length c0_4]) (t := 32) ?hr ?_; (case hd => rfl); (case hg => rfl); (case hr => first | (go_simp; done) | (go_simp; rfl)); intro gb155 hg w5 hbox hb; have n0_ := am (below_step (by repeat (first | (with_reducible first | exact HB.out | apply bal | apply pdn | apply bd1) | exact HB.out)) hb); have n1_ := am (hbox); have n2_ := am ((by rw [hg]; exact (below_size (by repeat (first | (with_reducible first | exact HB.out | apply bal | apply pdn | apply bd1) | exact HB.out))) : w.heap.size ≤ gb155)); have n3_ := am ((by rw [hg]; exact (below_size (by repeat (first | (with_reducible first | exact HB.out | apply bal | apply pdn | apply bd1) | exact HB.out))) : w.heap.size ≤ gb155)); clear HB; have HB := n0_; have BK155 := n1_; have GW155 := n2_; have GE155 := n3_; clear n0_ n1_ n2_ n3_; clear hb hbox hg; have hcz6_0 : w5.cell? ⟨gb155, 0, none⟩ = some (.int .i64 a0_0) := (kce BK155.out 0).trans rfl; have hcz6_1 : w5.cell? ⟨gb155, 1, none⟩ = some (.int .i64 a0_1) := (kce BK155.out 1).trans rfl; have hcz6_2 : w5.cell? ⟨gb155, 2, none⟩ = some (.int .i64 a0_2) := (kce BK155.out 2).trans rfl; have hcz6_3 : w5.cell? ⟨gb155, 3, none⟩ = some (.int .i64 a0_3) := (kce BK155.out 3).trans rfl; have hcz6_4 : w5.cell? ⟨gb155, 4, none⟩ = some (.slice A0_4 l0_4.length c0_4) := (kce BK155.out 4).trans rfl; have hfz6_0 := kfr BK155.out 0; have hfz6_1 := kfr BK155.out 1; have hfz6_2 := kfr BK155.out 2; have hfz6_3 := kfr BK155.out 3; have hfz6_4 := kfr BK155.out 4) | ((with_reducible refine gate_callee (f := 39) rfl ?_); refine goesL_ (some 5) rfl rfl Try.func39 (by kernel_rfl) rfl #[.agg #[.int .i64 a0_0, .int .i64 a0_1, .int .i64 a0_2, .int .i64 a0_3, .slice A0_4 l0_4.length c0_4]] rfl (by (try simp only [mta, mco, mni]); first | done | rfl | (simp only [lnd, lnt]; rfl)) ?_; (with_reducible refine (impl_WideOk.calls a0_0 a0_1 a0_2 a0_3 _ _ l0_4 true _ ?side1 ?side2 A2.out).mono ?_); (case side1 => repeat (first | exact (Kd.C_below HR0_4.out HB.out) | (with_reducible first | apply kca | apply kcn | apply kcd))); (case side2 => exact HC0_4.out); rintro e w7 ⟨rfl, hb⟩; refine ⟨_, rfl, ?_⟩; have n0_ := am (kbb (g := gb155) (o := .cells #[.int .i64 a0_0, .int .i64 a0_1, .int .i64 a0_2, .int .i64 a0_3, .slice A0_4 l0_4.length c0_4] 32 (0, 0)) (by (with_reducible repeat (first | apply kdn | apply kdr | apply kal)); exact BK155.out) hb); have n1_ := am (below_step (by repeat (first | (with_reducible first | exact HB.out | apply bal | apply pdn | apply bd1 | refine bst ?_ GE155.out) | exact HB.out)) hb); clear BK155; clear HB; have BK155 := n0_; have HB := n1_; clear n0_ n1_; (try clear hb); (try clear hb2); (try clear hk); (try clear hi); have hcz8_0 : w7.cell? ⟨gb155, 0, none⟩ = some (.int .i64 a0_0) := (kce BK155.out 0).trans rfl; have hcz8_1 : w7.cell? ⟨gb155, 1, none⟩ = some (.int .i64 a0_1) := (kce BK155.out 1).trans rfl; have hcz8_2 : w7.cell? ⟨gb155, 2, none⟩ = some (.int .i64 a0_2) := (kce BK155.out 2).trans rfl; have hcz8_3 : w7.cell? ⟨gb155, 3, none⟩ = some (.int .i64 a0_3) := (kce BK155.out 3).trans rfl; have hcz8_4 : w7.cell? ⟨gb155, 4, none⟩ = some (.slice A0_4 l0_4.length c0_4) := (kce BK155.out 4).trans rfl; have hfz8_0 := kfr BK155.out 0; have hfz8_1 := kfr BK155.out 1; have hfz8_2 := kfr BK155.out 2; have hfz8_3 := kfr BK155.out 3; have hfz8_4 := kfr BK155.out 4) | ((with_reducible refine gate_callee (f := 40) rfl ?_); refine goesL_ (some 12) rfl rfl Try.func40 (by kernel_rfl) rfl #[.agg #[.int .i64 a0_0, .int .i64 a0_1, .int .i64 a0_2, .int .i64 a0_3, .slice A0_4 l0_4.length c0_4], .slice A0_4 l0_4.length c0_4, .int .i64 0, .int .i64 a0_3] rfl (by (try simp only [mta, mco, mni]); first | done | rfl | (simp only [lnd, lnt]; rfl)) ?_; (with_reducible refine (impl_Wide_body.calls a0_0 a0_1 a0_2 a0_3 _ _ l0_4 _ _ l0_4 0 a0_3 t157 _ ?side1 ?side2 ?side3 ?side4 A4.out).mono ?_); (case side1 => repeat (first | exact (Kd.C_below HR0_4.out HB.out) | (with_reducible first | apply kca | apply kcn | apply kcd))); (case side2 => exact HC0_4.out); (case side3 => repeat (first | exact (Kd.C_below HR0_4.out HB.out) | (with_reducible first | apply kca | apply kcn | apply kcd))); (case side4 => exact HC0_4.out); rintro e w9 ⟨rfl, hb⟩; refine ⟨_, rfl, ?_⟩; have n0_ := am (kbb (g := gb155) (o := .cells #[.int .i64 a0_0, .int .i64 a0_1, .int .i64 a0_2, .int .i64 a0_3, .slice A0_4 l0_4.length c0_4] 32 (0, 0)) (by (with_reducible repeat (first | apply kdn | apply kdr | apply kal)); exact BK155.out) hb); have n1_ := am (below_step (by repeat (first | (with_reducible first | exact HB.out | apply bal | apply pdn | apply bd1 | refine bst ?_ GE155.out) | exact HB.out)) hb); clear BK155; clear HB; have BK155 := n0_; have HB := n1_; clear n0_ n1_; (try clear hb); (try clear hb2); (try clear hk); (try clear hi)))
  go_ret2
  exact ⟨by first | rfl | (simp [errW_none, errW_some] <;> rfl) | (simp [*, errW_none, errW_some] <;> rfl), by repeat (first | (with_reducible first | exact HB.out | apply bal | apply pdn | apply bd1 | refine bst ?_ GE155.out) | exact HB.out)⟩
 ·replace c3 := Bool.eq_false_iff.mpr c3
  subst c3
  have H1 : (some ((⟨#[]⟩ : ByteArray), 1)) = some (r1, r2) := by rw [if_neg (show ¬ (false = true) by decide)] at H; exact H
  clear H
  have H := H1
  clear H1
  simp only [Option.some.injEq, Prod.mk.injEq] at H
  obtain ⟨rfl, rfl⟩ := H
  go_enter Try.func12, Try.ntmps12
  go_wp2_with (first | ((with_reducible refine gate_dst (N := 1) rfl ?_); refine box_event ?hg (N := 1) ?hd (cs := #[.int .i64 a0_0, .int .i64 a0_1, .int .i64 a0_2, .int .i64 a0_3, .slice A0_4 l0_4.length c0_4]) (t := 32) ?hr ?_; (case hd => rfl); (case hg => rfl); (case hr => first | (go_simp; done) | (go_simp; rfl)); intro gb155 hg w10 hbox hb; have n0_ := am (below_step (by repeat (first | (with_reducible first | exact HB.out | apply bal | apply pdn | apply bd1) | exact HB.out)) hb); have n1_ := am (hbox); have n2_ := am ((by rw [hg]; exact (below_size (by repeat (first | (with_reducible first | exact HB.out | apply bal | apply pdn | apply bd1) | exact HB.out))) : w.heap.size ≤ gb155)); have n3_ := am ((by rw [hg]; exact (below_size (by repeat (first | (with_reducible first | exact HB.out | apply bal | apply pdn | apply bd1) | exact HB.out))) : w.heap.size ≤ gb155)); clear HB; have HB := n0_; have BK155 := n1_; have GW155 := n2_; have GE155 := n3_; clear n0_ n1_ n2_ n3_; clear hb hbox hg; have hcz11_0 : w10.cell? ⟨gb155, 0, none⟩ = some (.int .i64 a0_0) := (kce BK155.out 0).trans rfl; have hcz11_1 : w10.cell? ⟨gb155, 1, none⟩ = some (.int .i64 a0_1) := (kce BK155.out 1).trans rfl; have hcz11_2 : w10.cell? ⟨gb155, 2, none⟩ = some (.int .i64 a0_2) := (kce BK155.out 2).trans rfl; have hcz11_3 : w10.cell? ⟨gb155, 3, none⟩ = some (.int .i64 a0_3) := (kce BK155.out 3).trans rfl; have hcz11_4 : w10.cell? ⟨gb155, 4, none⟩ = some (.slice A0_4 l0_4.length c0_4) := (kce BK155.out 4).trans rfl; have hfz11_0 := kfr BK155.out 0; have hfz11_1 := kfr BK155.out 1; have hfz11_2 := kfr BK155.out 2; have hfz11_3 := kfr BK155.out 3; have hfz11_4 := kfr BK155.out 4) | ((with_reducible refine gate_callee (f := 39) rfl ?_); refine goesL_ (some 5) rfl rfl Try.func39 (by kernel_rfl) rfl #[.agg #[.int .i64 a0_0, .int .i64 a0_1, .int .i64 a0_2, .int .i64 a0_3, .slice A0_4 l0_4.length c0_4]] rfl (by (try simp only [mta, mco, mni]); first | done | rfl | (simp only [lnd, lnt]; rfl)) ?_; (with_reducible refine (impl_WideOk.calls a0_0 a0_1 a0_2 a0_3 _ _ l0_4 false _ ?side1 ?side2 A2.out).mono ?_); (case side1 => repeat (first | exact (Kd.C_below HR0_4.out HB.out) | (with_reducible first | apply kca | apply kcn | apply kcd))); (case side2 => exact HC0_4.out); rintro e w12 ⟨rfl, hb⟩; refine ⟨_, rfl, ?_⟩; have n0_ := am (kbb (g := gb155) (o := .cells #[.int .i64 a0_0, .int .i64 a0_1, .int .i64 a0_2, .int .i64 a0_3, .slice A0_4 l0_4.length c0_4] 32 (0, 0)) (by (with_reducible repeat (first | apply kdn | apply kdr | apply kal)); exact BK155.out) hb); have n1_ := am (below_step (by repeat (first | (with_reducible first | exact HB.out | apply bal | apply pdn | apply bd1 | refine bst ?_ GE155.out) | exact HB.out)) hb); clear BK155; clear HB; have BK155 := n0_; have HB := n1_; clear n0_ n1_; (try clear hb); (try clear hb2); (try clear hk); (try clear hi)))
  go_ret2
  exact ⟨by first | rfl | (simp [errW_none, errW_some] <;> rfl) | (simp [*, errW_none, errW_some] <;> rfl), by repeat (first | (with_reducible first | exact HB.out | apply bal | apply pdn | apply bd1 | refine bst ?_ GE155.out) | exact HB.out)⟩

/-! ### laws_eqCode: function 41 -/
def laws_eqCode.f (a0_0 : Int) (a0_1 : Int) (a1_0 : Int) (a1_1 : Int) : Option (Bool) := if a0_0 = a1_0 then (if a0_1 = a1_1 then (some true) else (some false)) else (some false)
set_option maxHeartbeats 8000000 in
set_option maxRecDepth 100000 in
theorem laws_eqCode.calls (a0_0 : Int) (a0_1 : Int) (a1_0 : Int) (a1_1 : Int) (r : Bool) (w : World) (h : laws_eqCode.f a0_0 a0_1 a1_0 a1_1 = some r) :
  Calls Try.prog 41 #[.agg #[.int .i64 a0_0, .int .i64 a0_1], .agg #[.int .i64 a1_0, .int .i64 a1_1]] w fun e w' => e = .returned (.bool r) ∧ Below w.heap.size w w' := by
 have hu30 := Try.underlying30
 have HB := am (Below.refl w.heap.size w)
 have H : (if a0_0 = a1_0 then (if a0_1 = a1_1 then (some true) else (some false)) else (some false)) = some r := h
 clear h
 by_cases c3 : a0_0 = a1_0
 ·rw [if_pos c3] at H
  have c3b0 : (a0_0 == a1_0) = true := beq_iff_eq.mpr c3
  have c3b1 : (a0_0 != a1_0) = false := bne_eq_false_iff_eq.mpr c3
  clear c3
  by_cases c4 : a0_1 = a1_1
  ·rw [if_pos c4] at H
   have c4b0 : (a0_1 == a1_1) = true := beq_iff_eq.mpr c4
   have c4b1 : (a0_1 != a1_1) = false := bne_eq_false_iff_eq.mpr c4
   clear c4
   obtain rfl := Option.some.inj H
   go_enter Try.func41, Try.ntmps41
   go_wp2_with (first | ((with_reducible refine gate_dst (N := 2) rfl ?_); refine box_event ?hg (N := 2) ?hd (cs := #[.int .i64 a0_0, .int .i64 a0_1]) (t := 30) ?hr ?_; (case hd => rfl); (case hg => rfl); (case hr => first | (go_simp; done) | (go_simp; rfl)); intro gb158 hg w5 hbox hb; have n0_ := am (below_step (by repeat (first | (with_reducible first | exact HB.out | apply bal | apply pdn | apply bd1) | exact HB.out)) hb); have n1_ := am (hbox); have n2_ := am ((by rw [hg]; exact (below_size (by repeat (first | (with_reducible first | exact HB.out | apply bal | apply pdn | apply bd1) | exact HB.out))) : w.heap.size ≤ gb158)); have n3_ := am ((by rw [hg]; exact (below_size (by repeat (first | (with_reducible first | exact HB.out | apply bal | apply pdn | apply bd1) | exact HB.out))) : w.heap.size ≤ gb158)); clear HB; have HB := n0_; have BK158 := n1_; have GW158 := n2_; have GE158 := n3_; clear n0_ n1_ n2_ n3_; clear hb hbox hg) | ((with_reducible refine gate_dst (N := 3) rfl ?_); refine box_event ?hg (N := 3) ?hd (cs := #[.int .i64 a1_0, .int .i64 a1_1]) (t := 30) ?hr ?_; (case hd => rfl); (case hg => rfl); (case hr => first | (go_simp; done) | (go_simp; rfl)); intro gb159 hg w6 hbox hb; have n0_ := am (kbb (g := gb158) (o := .cells #[.int .i64 a0_0, .int .i64 a0_1] 30 (0, 0)) (by (with_reducible repeat (first | apply kdn | apply kdr | apply kal)); exact BK158.out) hb); have n1_ := am (below_step (by repeat (first | (with_reducible first | exact HB.out | apply bal | apply pdn | apply bd1 | refine bst ?_ GE158.out) | exact HB.out)) hb); have n2_ := am (hbox); have n3_ := am ((by rw [hg]; exact (below_size (by repeat (first | (with_reducible first | exact HB.out | apply bal | apply pdn | apply bd1 | refine bst ?_ GE158.out) | exact HB.out))) : w.heap.size ≤ gb159)); have n4_ := am ((by rw [hg]; exact (below_size (by repeat (first | (with_reducible first | exact HB.out | apply bal | apply pdn | apply bd1 | refine bst ?_ GE158.out) | exact HB.out))) : w.heap.size ≤ gb159)); have n5_ := am ((by rw [hg]; exact Nat.ne_of_lt (blk_lt (g := gb158) (o := .cells #[.int .i64 a0_0, .int .i64 a0_1] 30 (0, 0)) (by (with_reducible repeat (first | apply kdn | apply kdr | apply kal)); exact BK158.out)) : gb158 ≠ gb159)); have n6_ := am ((by rw [hg]; exact Nat.ne_of_gt (blk_lt (g := gb158) (o := .cells #[.int .i64 a0_0, .int .i64 a0_1] 30 (0, 0)) (by (with_reducible repeat (first | apply kdn | apply kdr | apply kal)); exact BK158.out)) : gb159 ≠ gb158)); clear BK158; clear HB; have BK158 := n0_; have HB := n1_; have BK159 := n2_; have GW159 := n3_; have GE159 := n4_; have NB158_159 := n5_; have NB159_158 := n6_; clear n0_ n1_ n2_ n3_ n4_ n5_ n6_; clear hb hbox hg; have hnb7 := NB158_159.out; have hnc7 := NB159_158.out; have hcz8_0 : w6.cell? ⟨gb158, 0, none⟩ = some (.int .i64 a0_0) := (kce BK158.out 0).trans rfl; have hcz8_1 : w6.cell? ⟨gb158, 1, none⟩ = some (.int .i64 a0_1) := (kce BK158.out 1).trans rfl; have hfz8_0 := kfr BK158.out 0; have hfz8_1 := kfr BK158.out 1; have hcz9_0 : w6.cell? ⟨gb159, 0, none⟩ = some (.int .i64 a1_0) := (kce BK159.out 0).trans rfl; have hcz9_1 : w6.cell? ⟨gb159, 1, none⟩ = some (.int .i64 a1_1) := (kce BK159.out 1).trans rfl; have hfz9_0 := kfr BK159.out 0; have hfz9_1 := kfr BK159.out 1))
   go_ret
   exact ⟨by first | rfl | (simp [errW_none, errW_some] <;> rfl) | (simp [*, errW_none, errW_some] <;> rfl), by repeat (first | (with_reducible first | exact HB.out | apply bal | apply pdn | apply bd1 | refine bst ?_ GE158.out | refine bst ?_ GE159.out) | exact HB.out)⟩
  ·rw [if_neg c4] at H
   have c4b0 : (a0_1 == a1_1) = false := beq_eq_false_iff_ne.mpr c4
   have c4b1 : (a0_1 != a1_1) = true := bne_iff_ne.mpr c4
   obtain rfl := Option.some.inj H
   go_enter Try.func41, Try.ntmps41
   go_wp2_with (first | ((with_reducible refine gate_dst (N := 2) rfl ?_); refine box_event ?hg (N := 2) ?hd (cs := #[.int .i64 a0_0, .int .i64 a0_1]) (t := 30) ?hr ?_; (case hd => rfl); (case hg => rfl); (case hr => first | (go_simp; done) | (go_simp; rfl)); intro gb158 hg w10 hbox hb; have n0_ := am (below_step (by repeat (first | (with_reducible first | exact HB.out | apply bal | apply pdn | apply bd1) | exact HB.out)) hb); have n1_ := am (hbox); have n2_ := am ((by rw [hg]; exact (below_size (by repeat (first | (with_reducible first | exact HB.out | apply bal | apply pdn | apply bd1) | exact HB.out))) : w.heap.size ≤ gb158)); have n3_ := am ((by rw [hg]; exact (below_size (by repeat (first | (with_reducible first | exact HB.out | apply bal | apply pdn | apply bd1) | exact HB.out))) : w.heap.size ≤ gb158)); clear HB; have HB := n0_; have BK158 := n1_; have GW158 := n2_; have GE158 := n3_; clear n0_ n1_ n2_ n3_; clear hb hbox hg) | ((with_reducible refine gate_dst (N := 3) rfl ?_); refine box_event ?hg (N := 3) ?hd (cs := #[.int .i64 a1_0, .int .i64 a1_1]) (t := 30) ?hr ?_; (case hd => rfl); (case hg => rfl); (case hr => first | (go_simp; done) | (go_simp; rfl)); intro gb159 hg w11 hbox hb; have n0_ := am (kbb (g := gb158) (o := .cells #[.int .i64 a0_0, .int .i64 a0_1] 30 (0, 0)) (by (with_reducible repeat (first | apply kdn | apply kdr | apply kal)); exact BK158.out) hb); have n1_ := am (below_step (by repeat (first | (with_reducible first | exact HB.out | apply bal | apply pdn | apply bd1 | refine bst ?_ GE158.out) | exact HB.out)) hb); have n2_ := am (hbox); have n3_ := am ((by rw [hg]; exact (below_size (by repeat (first | (with_reducible first | exact HB.out | apply bal | apply pdn | apply bd1 | refine bst ?_ GE158.out) | exact HB.out))) : w.heap.size ≤ gb159)); have n4_ := am ((by rw [hg]; exact (below_size (by repeat (first | (with_reducible first | exact HB.out | apply bal | apply pdn | apply bd1 | refine bst ?_ GE158.out) | exact HB.out))) : w.heap.size ≤ gb159)); have n5_ := am ((by rw [hg]; exact Nat.ne_of_lt (blk_lt (g := gb158) (o := .cells #[.int .i64 a0_0, .int .i64 a0_1] 30 (0, 0)) (by (with_reducible repeat (first | apply kdn | apply kdr | apply kal)); exact BK158.out)) : gb158 ≠ gb159)); have n6_ := am ((by rw [hg]; exact Nat.ne_of_gt (blk_lt (g := gb158) (o := .cells #[.int .i64 a0_0, .int .i64 a0_1] 30 (0, 0)) (by (with_reducible repeat (first | apply kdn | apply kdr | apply kal)); exact BK158.out)) : gb159 ≠ gb158)); clear BK158; clear HB; have BK158 := n0_; have HB := n1_; have BK159 := n2_; have GW159 := n3_; have GE159 := n4_; have NB158_159 := n5_; have NB159_158 := n6_; clear n0_ n1_ n2_ n3_ n4_ n5_ n6_; clear hb hbox hg; have hnb12 := NB158_159.out; have hnc12 := NB159_158.out; have hcz13_0 : w11.cell? ⟨gb158, 0, none⟩ = some (.int .i64 a0_0) := (kce BK158.out 0).trans rfl; have hcz13_1 : w11.cell? ⟨gb158, 1, none⟩ = some (.int .i64 a0_1) := (kce BK158.out 1).trans rfl; have hfz13_0 := kfr BK158.out 0; have hfz13_1 := kfr BK158.out 1; have hcz14_0 : w11.cell? ⟨gb159, 0, none⟩ = some (.int .i64 a1_0) := (kce BK159.out 0).trans rfl; have hcz14_1 : w11.cell? ⟨gb159, 1, none⟩ = some (.int .i64 a1_1) := (kce BK159.out 1).trans rfl; have hfz14_0 := kfr BK159.out 0; have hfz14_1 := kfr BK159.out 1))
   go_ret
   exact ⟨by first | rfl | (simp [errW_none, errW_some] <;> rfl) | (simp [*, errW_none, errW_some] <;> rfl), by repeat (first | (with_reducible first | exact HB.out | apply bal | apply pdn | apply bd1 | refine bst ?_ GE158.out | refine bst ?_ GE159.out) | exact HB.out)⟩
 ·rw [if_neg c3] at H
  have c3b0 : (a0_0 == a1_0) = false := beq_eq_false_iff_ne.mpr c3
  have c3b1 : (a0_0 != a1_0) = true := bne_iff_ne.mpr c3
  obtain rfl := Option.some.inj H
  go_enter Try.func41, Try.ntmps41
  go_wp2_with (first | ((with_reducible refine gate_dst (N := 2) rfl ?_); refine box_event ?hg (N := 2) ?hd (cs := #[.int .i64 a0_0, .int .i64 a0_1]) (t := 30) ?hr ?_; (case hd => rfl); (case hg => rfl); (case hr => first | (go_simp; done) | (go_simp; rfl)); intro gb158 hg w15 hbox hb; have n0_ := am (below_step (by repeat (first | (with_reducible first | exact HB.out | apply bal | apply pdn | apply bd1) | exact HB.out)) hb); have n1_ := am (hbox); have n2_ := am ((by rw [hg]; exact (below_size (by repeat (first | (with_reducible first | exact HB.out | apply bal | apply pdn | apply bd1) | exact HB.out))) : w.heap.size ≤ gb158)); have n3_ := am ((by rw [hg]; exact (below_size (by repeat (first | (with_reducible first | exact HB.out | apply bal | apply pdn | apply bd1) | exact HB.out))) : w.heap.size ≤ gb158)); clear HB; have HB := n0_; have BK158 := n1_; have GW158 := n2_; have GE158 := n3_; clear n0_ n1_ n2_ n3_; clear hb hbox hg) | ((with_reducible refine gate_dst (N := 3) rfl ?_); refine box_event ?hg (N := 3) ?hd (cs := #[.int .i64 a1_0, .int .i64 a1_1]) (t := 30) ?hr ?_; (case hd => rfl); (case hg => rfl); (case hr => first | (go_simp; done) | (go_simp; rfl)); intro gb159 hg w16 hbox hb; have n0_ := am (kbb (g := gb158) (o := .cells #[.int .i64 a0_0, .int .i64 a0_1] 30 (0, 0)) (by (with_reducible repeat (first | apply kdn | apply kdr | apply kal)); exact BK158.out) hb); have n1_ := am (below_step (by repeat (first | (with_reducible first | exact HB.out | apply bal | apply pdn | apply bd1 | refine bst ?_ GE158.out) | exact HB.out)) hb); have n2_ := am (hbox); have n3_ := am ((by rw [hg]; exact (below_size (by repeat (first | (with_reducible first | exact HB.out | apply bal | apply pdn | apply bd1 | refine bst ?_ GE158.out) | exact HB.out))) : w.heap.size ≤ gb159)); have n4_ := am ((by rw [hg]; exact (below_size (by repeat (first | (with_reducible first | exact HB.out | apply bal | apply pdn | apply bd1 | refine bst ?_ GE158.out) | exact HB.out))) : w.heap.size ≤ gb159)); have n5_ := am ((by rw [hg]; exact Nat.ne_of_lt (blk_lt (g := gb158) (o := .cells #[.int .i64 a0_0, .int .i64 a0_1] 30 (0, 0)) (by (with_reducible repeat (first | apply kdn | apply kdr | apply kal)); exact BK158.out)) : gb158 ≠ gb159)); have n6_ := am ((by rw [hg]; exact Nat.ne_of_gt (blk_lt (g := gb158) (o := .cells #[.int .i64 a0_0, .int .i64 a0_1] 30 (0, 0)) (by (with_reducible repeat (first | apply kdn | apply kdr | apply kal)); exact BK158.out)) : gb159 ≠ gb158)); clear BK158; clear HB; have BK158 := n0_; have HB := n1_; have BK159 := n2_; have GW159 := n3_; have GE159 := n4_; have NB158_159 := n5_; have NB159_158 := n6_; clear n0_ n1_ n2_ n3_ n4_ n5_ n6_; clear hb hbox hg; have hnb17 := NB158_159.out; have hnc17 := NB159_158.out; have hcz18_0 : w16.cell? ⟨gb158, 0, none⟩ = some (.int .i64 a0_0) := (kce BK158.out 0).trans rfl; have hcz18_1 : w16.cell? ⟨gb158, 1, none⟩ = some (.int .i64 a0_1) := (kce BK158.out 1).trans rfl; have hfz18_0 := kfr BK158.out 0; have hfz18_1 := kfr BK158.out 1; have hcz19_0 : w16.cell? ⟨gb159, 0, none⟩ = some (.int .i64 a1_0) := (kce BK159.out 0).trans rfl; have hcz19_1 : w16.cell? ⟨gb159, 1, none⟩ = some (.int .i64 a1_1) := (kce BK159.out 1).trans rfl; have hfz19_0 := kfr BK159.out 0; have hfz19_1 := kfr BK159.out 1))
  go_ret
  exact ⟨by first | rfl | (simp [errW_none, errW_some] <;> rfl) | (simp [*, errW_none, errW_some] <;> rfl), by repeat (first | (with_reducible first | exact HB.out | apply bal | apply pdn | apply bd1 | refine bst ?_ GE158.out | refine bst ?_ GE159.out) | exact HB.out)⟩

/-! ### laws_eqStringS: function 42 -/
def laws_eqStringS.l0 : Nat → List ByteArray → List ByteArray → Int → Option (Bool)
 | 0, _, _, _ => none
 | k + 1, x0, x1, x5 => if x5 < (x0.length : Int) then (if 0 ≤ x5 then (if x5 < (x1.length : Int) then (if (rdOf ByteArray.empty x0 x5).toList = (rdOf ByteArray.empty x1 x5).toList then (laws_eqStringS.l0 k x0 x1 (wrap64 (x5 + 1))) else (some false)) else (none)) else (none)) else (some true)
def laws_eqStringS.f (k : Nat) (l0 : List ByteArray) (l1 : List ByteArray) : Option (Bool) := if (l0.length : Int) = (l1.length : Int) then (laws_eqStringS.l0 k l0 l1 0) else (some false)
theorem laws_eqStringS.mono_l : ∀ k, (∀ y0 y1 y2, LeO (laws_eqStringS.l0 k y0 y1 y2) (laws_eqStringS.l0 (k + 1) y0 y1 y2))
 | 0 => fun _ _ _ r h => by simp [laws_eqStringS.l0] at h
 | k + 1 => by
  have ih0 := laws_eqStringS.mono_l k
  ·intro y0 y1 y2
   unfold laws_eqStringS.l0
   repeat' first
   | (with_reducible exact ih0 _ _ _)
   | (with_reducible exact LeO.refl _)
   | (with_reducible exact LeO.none _)
   | (with_reducible refine LeO.ite ?_ ?_)
   | (with_reducible refine LeO.bind ?_ (fun _ => ?_))
   | exact ih0 _ _ _
   | exact LeO.none _
   | refine LeO.ite ?_ ?_
   | refine LeO.bind ?_ (fun _ => ?_)
theorem laws_eqStringS.mono : ∀ a0 a1 k, LeO (laws_eqStringS.f k a0 a1) (laws_eqStringS.f (k + 1) a0 a1) := by
 intro a0 a1 k
 have ih0 := laws_eqStringS.mono_l k
 unfold laws_eqStringS.f
 repeat' first
   | (with_reducible exact ih0 _ _ _)
   | (with_reducible exact LeO.refl _)
   | (with_reducible exact LeO.none _)
   | (with_reducible refine LeO.ite ?_ ?_)
   | (with_reducible refine LeO.bind ?_ (fun _ => ?_))
   | exact ih0 _ _ _
   | exact LeO.none _
   | refine LeO.ite ?_ ?_
   | refine LeO.bind ?_ (fun _ => ?_)
set_option maxHeartbeats 8000000 in
set_option maxRecDepth 100000 in
theorem laws_eqStringS.calls (k : Nat) (A0 : Option Addr) (c0 : Nat) (l0 : List ByteArray) (A1 : Option Addr) (c1 : Nat) (l1 : List ByteArray) (r : Bool) (w : World) (hr0 : Kd.C Kd.string w A0 l0.length l0) (hc0 : l0.length ≤ c0) (hr1 : Kd.C Kd.string w A1 l1.length l1) (hc1 : l1.length ≤ c1) (h : laws_eqStringS.f k l0 l1 = some r) :
  Calls Try.prog 42 #[.slice A0 l0.length c0, .slice A1 l1.length c1] w fun e w' => e = .returned (.bool r) ∧ Drawn0 w w' := by
 have HR0 := am hr0
 have HC0 := am hc0
 clear hr0 hc0
 have HR1 := am hr1
 have HC1 := am hc1
 clear hr1 hc1
 have H : (if (l0.length : Int) = (l1.length : Int) then (laws_eqStringS.l0 k l0 l1 0) else (some false)) = some r := h
 clear h
 by_cases c3 : (l0.length : Int) = (l1.length : Int)
 ·rw [if_pos c3] at H
  have c3b0 : ((l0.length : Int) == (l1.length : Int)) = true := beq_iff_eq.mpr c3
  have c3b1 : ((l0.length : Int) != (l1.length : Int)) = false := bne_eq_false_iff_eq.mpr c3
  have c3b2 : (l0.length == l1.length) = true := by first | simpa using c3 | (simp at c3 ⊢; omega)
  clear c3
  have H' := am H
  clear H
  go_enter Try.func42, Try.ntmps42
  go_wp2
  repeat (go_quiet (fail); try go_wp2)
  go_loopg [5] k (fun kq v5 w' => ∃ (x5_1 : Int), v5 = .int .i64 x5_1 ∧ Aside0 (laws_eqStringS.l0 kq l0 l1 x5_1 = some r) ∧ Aside0 (kq ≤ k) ∧ Drawn0 w w')
  case atStart => exact ⟨(0), (by first | rfl | (simp; done) | (simp [*]; done)), H', ⟨Nat.le_refl _⟩, by repeat (first | exact Drawn0.refl _ | apply Drawn0.step)⟩
  case round =>
   clear H'
   obtain ⟨x5_1, rfl, HA, HK1, ⟨m1, rfl⟩⟩ := hrel
   cases gk with
   | zero => exact absurd HA.out (by simp [laws_eqStringS.l0])
   | succ k1 =>
    have H := HA.out
    clear HA
    simp only [laws_eqStringS.l0] at H
    by_cases c4 : x5_1 < (l0.length : Int)
    ·rw [if_pos c4] at H
     have c4b0 : decide (x5_1 < (l0.length : Int)) = true := decide_eq_true c4
     clear c4
     by_cases c5 : 0 ≤ x5_1
     ·rw [if_pos c5] at H
      have c5b0 : decide (0 ≤ x5_1) = true := decide_eq_true c5
      clear c5
      by_cases c6 : x5_1 < (l1.length : Int)
      ·rw [if_pos c6] at H
       have c6b0 : decide (x5_1 < (l1.length : Int)) = true := decide_eq_true c6
       clear c6
       by_cases c7 : (rdOf ByteArray.empty l0 x5_1).toList = (rdOf ByteArray.empty l1 x5_1).toList
       ·rw [if_pos c7] at H
        have c7b0 : ((rdOf ByteArray.empty l0 x5_1).toList == (rdOf ByteArray.empty l1 x5_1).toList) = true := beq_iff_eq.mpr c7
        have c7b1 : ((rdOf ByteArray.empty l0 x5_1).toList != (rdOf ByteArray.empty l1 x5_1).toList) = false := bne_eq_false_iff_eq.mpr c7
        clear c7
        have H' := am H
        clear H
        have p160 : 0 ≤ (x5_1 : Int) := of_decide_eq_true (by first | (with_reducible assumption) | assumption)
        have q160 : x5_1 < (l0.length : Int) := of_decide_eq_true (by first | (with_reducible assumption) | assumption)
        obtain ⟨ad160, e160, hx160_0⟩ := Kd.at_string HR0.out x5_1 p160 q160
        cases e160
        replace p160 := eq_true p160
        replace q160 := eq_true q160
        have p161 : 0 ≤ (x5_1 : Int) := of_decide_eq_true (by first | (with_reducible assumption) | assumption)
        have q161 : x5_1 < (l1.length : Int) := of_decide_eq_true (by first | (with_reducible assumption) | assumption)
        obtain ⟨ad161, e161, hx161_0⟩ := Kd.at_string HR1.out x5_1 p161 q161
        cases e161
        replace p161 := eq_true p161
        replace q161 := eq_true q161
        go_wp2
        repeat (go_quiet (fail); try go_wp2)
        go_roundg k1
        case measure => have := HK1.out; omega
        case rel => exact ⟨(wrap64 (x5_1 + 1)), (by first | rfl | (simp; done) | (simp [*]; done)), H', ⟨by have := HK1.out; omega⟩, by repeat (first | exact Drawn0.refl _ | apply Drawn0.step)⟩
       ·rw [if_neg c7] at H
        have c7b0 : ((rdOf ByteArray.empty l0 x5_1).toList == (rdOf ByteArray.empty l1 x5_1).toList) = false := beq_eq_false_iff_ne.mpr c7
        have c7b1 : ((rdOf ByteArray.empty l0 x5_1).toList != (rdOf ByteArray.empty l1 x5_1).toList) = true := bne_iff_ne.mpr c7
        obtain rfl := Option.some.inj H
        have p160 : 0 ≤ (x5_1 : Int) := of_decide_eq_true (by first | (with_reducible assumption) | assumption)
        have q160 : x5_1 < (l0.length : Int) := of_decide_eq_true (by first | (with_reducible assumption) | assumption)
        obtain ⟨ad160, e160, hx160_0⟩ := Kd.at_string HR0.out x5_1 p160 q160
        cases e160
        replace p160 := eq_true p160
        replace q160 := eq_true q160
        have p161 : 0 ≤ (x5_1 : Int) := of_decide_eq_true (by first | (with_reducible assumption) | assumption)
        have q161 : x5_1 < (l1.length : Int) := of_decide_eq_true (by first | (with_reducible assumption) | assumption)
        obtain ⟨ad161, e161, hx161_0⟩ := Kd.at_string HR1.out x5_1 p161 q161
        cases e161
        replace p161 := eq_true p161
        replace q161 := eq_true q161
        go_wp2
        repeat (go_quiet (fail); try go_wp2)
        go_ret
        exact ⟨by first | rfl | (simp; done) | (simp [*]; done), by repeat (first | exact Drawn0.refl _ | apply Drawn0.step)⟩
      ·rw [if_neg c6] at H
       exact absurd H (by simp)
     ·rw [if_neg c5] at H
      exact absurd H (by simp)
    ·rw [if_neg c4] at H
     have c4b0 : decide (x5_1 < (l0.length : Int)) = false := decide_eq_false c4
     clear c4
     obtain rfl := Option.some.inj H
     go_wp2
     repeat (go_quiet (fail); try go_wp2)
     go_ret
     exact ⟨by first | rfl | (simp; done) | (simp [*]; done), by repeat (first | exact Drawn0.refl _ | apply Drawn0.step)⟩
 ·rw [if_neg c3] at H
  have c3b0 : ((l0.length : Int) == (l1.length : Int)) = false := beq_eq_false_iff_ne.mpr c3
  have c3b1 : ((l0.length : Int) != (l1.length : Int)) = true := bne_iff_ne.mpr c3
  have c3b2 : (l0.length == l1.length) = false := by first | simpa using c3 | (simp at c3 ⊢; omega)
  obtain rfl := Option.some.inj H
  go_enter Try.func42, Try.ntmps42
  go_wp2
  repeat (go_quiet (fail); try go_wp2)
  go_ret
  exact ⟨by first | rfl | (simp; done) | (simp [*]; done), by repeat (first | exact Drawn0.refl _ | apply Drawn0.step)⟩

/-! ### laws_eqWide: function 13 -/
def laws_eqWide.f (k : Nat) (a0_0 : Int) (a0_1 : Int) (a0_2 : Int) (a0_3 : Int) (l0_4 : List ByteArray) (a1_0 : Int) (a1_1 : Int) (a1_2 : Int) (a1_3 : Int) (l1_4 : List ByteArray) : Option (Bool) := (laws_eqCode.f a0_0 a0_1 a1_0 a1_1).bind fun t164 => (if t164 = true then (if a0_2 = a1_2 then (if a0_3 = a1_3 then ((laws_eqStringS.f k l0_4 l1_4).bind fun t165 => (if t165 = true then (some true) else (some false))) else (some false)) else (some false)) else (some false))
theorem laws_eqWide.mono : ∀ a0 a1 a2 a3 a4 a5 a6 a7 a8 a9 k, LeO (laws_eqWide.f k a0 a1 a2 a3 a4 a5 a6 a7 a8 a9) (laws_eqWide.f (k + 1) a0 a1 a2 a3 a4 a5 a6 a7 a8 a9) := by
 intro a0 a1 a2 a3 a4 a5 a6 a7 a8 a9 k
 unfold laws_eqWide.f
 repeat' first
   | (with_reducible exact laws_eqStringS.mono _ _ _)
   | (with_reducible exact LeO.refl _)
   | (with_reducible exact LeO.none _)
   | (with_reducible refine LeO.ite ?_ ?_)
   | (with_reducible refine LeO.bind ?_ (fun _ => ?_))
   | exact laws_eqStringS.mono _ _ _
   | exact LeO.none _
   | refine LeO.ite ?_ ?_
   | refine LeO.bind ?_ (fun _ => ?_)
set_option maxHeartbeats 8000000 in
set_option maxRecDepth 100000 in
theorem laws_eqWide.calls (k : Nat) (a0_0 : Int) (a0_1 : Int) (a0_2 : Int) (a0_3 : Int) (A0_4 : Option Addr) (c0_4 : Nat) (l0_4 : List ByteArray) (a1_0 : Int) (a1_1 : Int) (a1_2 : Int) (a1_3 : Int) (A1_4 : Option Addr) (c1_4 : Nat) (l1_4 : List ByteArray) (r : Bool) (w : World) (hr0_4 : Kd.C Kd.string w A0_4 l0_4.length l0_4) (hc0_4 : l0_4.length ≤ c0_4) (hr1_4 : Kd.C Kd.string w A1_4 l1_4.length l1_4) (hc1_4 : l1_4.length ≤ c1_4) (h : laws_eqWide.f k a0_0 a0_1 a0_2 a0_3 l0_4 a1_0 a1_1 a1_2 a1_3 l1_4 = some r) :
  Calls Try.prog 13 #[.agg #[.int .i64 a0_0, .int .i64 a0_1, .int .i64 a0_2, .int .i64 a0_3, .slice A0_4 l0_4.length c0_4], .agg #[.int .i64 a1_0, .int .i64 a1_1, .int .i64 a1_2, .int .i64 a1_3, .slice A1_4 l1_4.length c1_4]] w fun e w' => e = .returned (.bool r) ∧ Below w.heap.size w w' := by
 have hu32 := Try.underlying32
 have hu30 := Try.underlying30
 have HR0_4 := am hr0_4
 have HC0_4 := am hc0_4
 clear hr0_4 hc0_4
 have HR1_4 := am hr1_4
 have HC1_4 := am hc1_4
 clear hr1_4 hc1_4
 have HB := am (Below.refl w.heap.size w)
 have H : ((laws_eqCode.f a0_0 a0_1 a1_0 a1_1).bind fun t164 => (if t164 = true then (if a0_2 = a1_2 then (if a0_3 = a1_3 then ((laws_eqStringS.f k l0_4 l1_4).bind fun t165 => (if t165 = true then (some true) else (some false))) else (some false)) else (some false)) else (some false))) = some r := h
 clear h
 replace H := Option.bind_eq_some_iff.mp H
 obtain ⟨t164, A30, H⟩ := H
 replace H : (if t164 = true then (if a0_2 = a1_2 then (if a0_3 = a1_3 then ((laws_eqStringS.f k l0_4 l1_4).bind fun t165 => (if t165 = true then (some true) else (some false))) else (some false)) else (some false)) else (some false)) = some r := H
 have A3 := am A30
 clear A30
 by_cases c4 : t164 = true
 ·subst c4
  have H1 : (if a0_2 = a1_2 then (if a0_3 = a1_3 then ((laws_eqStringS.f k l0_4 l1_4).bind fun t165 => (if t165 = true then (some true) else (some false))) else (some false)) else (some false)) = some r := by rw [if_pos rfl] at H; exact H
  clear H
  have H := H1
  clear H1
  by_cases c5 : a0_2 = a1_2
  ·rw [if_pos c5] at H
   have c5b0 : (a0_2 == a1_2) = true := beq_iff_eq.mpr c5
   have c5b1 : (a0_2 != a1_2) = false := bne_eq_false_iff_eq.mpr c5
   clear c5
   by_cases c6 : a0_3 = a1_3
   ·rw [if_pos c6] at H
    have c6b0 : (a0_3 == a1_3) = true := beq_iff_eq.mpr c6
    have c6b1 : (a0_3 != a1_3) = false := bne_eq_false_iff_eq.mpr c6
    clear c6
    replace H := Option.bind_eq_some_iff.mp H
    obtain ⟨t165, A70, H⟩ := H
    replace H : (if t165 = true then (some true) else (some false)) = some r := H
    have A7 := am A70
    clear A70
    by_cases c8 : t165 = true
    ·subst c8
     have H1 : (some true) = some r := by rw [if_pos rfl] at H; exact H
     clear H
     have H := H1
     clear H1
     obtain rfl := Option.some.inj H
     go_enter Try.func13, Try.ntmps13
     go_wp2_with (first | ((with_reducible refine gate_dst (N := 2) rfl ?_); refine box_event ?hg (N := 2) ?hd (cs := #[.int .i64 a0_0, .int .i64 a0_1, .int .i64 a0_2, .int .i64 a0_3, .slice A0_4 l0_4.length c0_4]) (t := 32) ?hr ?_; (case hd => rfl); (case hg => rfl); (case hr => first | (go_simp; done) | (go_simp; rfl)); intro gb162 hg w9 hbox hb; have n0_ := am (below_step (by repeat (first | (with_reducible first | exact HB.out | apply bal | apply pdn | apply bd1) | exact HB.out)) hb); have n1_ := am (hbox); have n2_ := am ((by rw [hg]; exact (below_size (by repeat (first | (with_reducible first | exact HB.out | apply bal | apply pdn | apply bd1) | exact HB.out))) : w.heap.size ≤ gb162)); have n3_ := am ((by rw [hg]; exact (below_size (by repeat (first | (with_reducible first | exact HB.out | apply bal | apply pdn | apply bd1) | exact HB.out))) : w.heap.size ≤ gb162)); clear HB; have HB := n0_; have BK162 := n1_; have GW162 := n2_; have GE162 := n3_; clear n0_ n1_ n2_ n3_; clear hb hbox hg) | ((with_reducible refine gate_dst (N := 3) rfl ?_); refine box_event ?hg (N := 3) ?hd (cs := #[.int .i64 a1_0, .int .i64 a1_1, .int .i64 a1_2, .int .i64 a1_3, .slice A1_4 l1_4.length c1_4]) (t := 32) ?hr ?_; (case hd => rfl); (case hg => rfl); (case hr => first | (go_simp; done) | (go_simp; rfl)); intro gb163 hg w10 hbox hb; have n0_ := am (kbb (g := gb162) (o := .cells #[.int .i64 a0_0, .int .i64 a0_1, .int .i64 a0_2, .int .i64 a0_3, .slice A0_4 l0_4.length c0_4] 32 (0, 0)) (by (with_reducible repeat (first | apply kdn | apply kdr | apply kal)); exact BK162.out) hb); have n1_ := am (below_step (by repeat (first | (with_reducible first | exact HB.out | apply bal | apply pdn | apply bd1 | refine bst ?_ GE162.out) | exact HB.out)) hb); have n2_ := am (hbox); have n3_ := am ((by rw [hg]; exact (below_size (by repeat (first | (with_reducible first | exact HB.out | apply bal | apply pdn | apply bd1 | refine bst ?_ GE162.out) | exact HB.out))) : w.heap.size ≤ gb163)); have n4_ := am ((by rw [hg]; exact (below_size (by repeat (first | (with_reducible first | exact HB.out | apply bal | apply pdn | apply bd1 | refine bst ?_ GE162.out) | exact HB.out))) : w.heap.size ≤ gb163)); have n5_ := am ((by rw [hg]; exact Nat.ne_of_lt (blk_lt (g := gb162) (o := .cells #[.int .i64 a0_0, .int .i64 a0_1, .int .i64 a0_2, .int .i64 a0_3, .slice A0_4 l0_4.length c0_4] 32 (0, 0)) (by (with_reducible repeat (first | apply kdn | apply kdr | apply kal)); exact BK162.out)) : gb162 ≠ gb163)); have n6_ := am ((by rw [hg]; exact Nat.ne_of_gt (blk_lt (g := gb162) (o := .cells #[.int .i64 a0_0, .int .i64 a0_1, .int .i64 a0_2, .int .i64 a0_3, .slice A0_4 l0_4.length c0_4] 32 (0, 0)) (by (with_reducible repeat (first | apply kdn | apply kdr | apply kal)); exact BK162.out)) : gb163 ≠ gb162)); clear BK162; clear HB; have BK162 := n0_; have HB := n1_; have BK163 := n2_; have GW163 := n3_; have GE163 := n4_; have NB162_163 := n5_; have NB163_162 := n6_; clear n0_ n1_ n2_ n3_ n4_ n5_ n6_; clear hb hbox hg; have hnb11 := NB162_163.out; have hnc11 := NB163_162.out; have hcz12_0 : w10.cell? ⟨gb162, 0, none⟩ = some (.int .i64 a0_0) := (kce BK162.out 0).trans rfl; have hcz12_1 : w10.cell? ⟨gb162, 1, none⟩ = some (.int .i64 a0_1) := (kce BK162.out 1).trans rfl; have hcz12_2 : w10.cell? ⟨gb162, 2, none⟩ = some (.int .i64 a0_2) := (kce BK162.out 2).trans rfl; have hcz12_3 : w10.cell? ⟨gb162, 3, none⟩ = some (.int .i64 a0_3) := (kce BK162.out 3).trans rfl; have hcz12_4 : w10.cell? ⟨gb162, 4, none⟩ = some (.slice A0_4 l0_4.length c0_4) := (kce BK162.out 4).trans rfl; have hfz12_0 := kfr BK162.out 0; have hfz12_1 := kfr BK162.out 1; have hfz12_2 := kfr BK162.out 2; have hfz12_3 := kfr BK162.out 3; have hfz12_4 := kfr BK162.out 4; have hcz13_0 : w10.cell? ⟨gb163, 0, none⟩ = some (.int .i64 a1_0) := (kce BK163.out 0).trans rfl; have hcz13_1 : w10.cell? ⟨gb163, 1, none⟩ = some (.int .i64 a1_1) := (kce BK163.out 1).trans rfl; have hcz13_2 : w10.cell? ⟨gb163, 2, none⟩ = some (.int .i64 a1_2) := (kce BK163.out 2).trans rfl; have hcz13_3 : w10.cell? ⟨gb163, 3, none⟩ = some (.int .i64 a1_3) := (kce BK163.out 3).trans rfl; have hcz13_4 : w10.cell? ⟨gb163, 4, none⟩ = some (.slice A1_4 l1_4.length c1_4) := (kce BK163.out 4).trans rfl; have hfz13_0 := kfr BK163.out 0; have hfz13_1 := kfr BK163.out 1; have hfz13_2 := kfr BK163.out 2; have hfz13_3 := kfr BK163.out 3; have hfz13_4 := kfr BK163.out 4) | ((with_reducible refine gate_callee (f := 41) rfl ?_); refine goesL_ (some 9) rfl rfl Try.func41 (by kernel_rfl) rfl #[.agg #[.int .i64 a0_0, .int .i64 a0_1], .agg #[.int .i64 a1_0, .int .i64 a1_1]] rfl (by (try simp only [mta, mco, mni]); first | done | rfl | (simp only [lnd, lnt]; rfl)) ?_; (with_reducible refine (laws_eqCode.calls a0_0 a0_1 a1_0 a1_1 true _ A3.out).mono ?_); rintro e w14 ⟨rfl, hb⟩; refine ⟨_, rfl, ?_⟩; have n0_ := am (kbb (g := gb162) (o := .cells #[.int .i64 a0_0, .int .i64 a0_1, .int .i64 a0_2, .int .i64 a0_3, .slice A0_4 l0_4.length c0_4] 32 (0, 0)) (by (with_reducible repeat (first | apply kdn | apply kdr | apply kal)); exact BK162.out) hb); have n1_ := am (kbb (g := gb163) (o := .cells #[.int .i64 a1_0, .int .i64 a1_1, .int .i64 a1_2, .int .i64 a1_3, .slice A1_4 l1_4.length c1_4] 32 (0, 0)) (by (with_reducible repeat (first | apply kdn | apply kdr | apply kal)); exact BK163.out) hb); have n2_ := am (below_step (by repeat (first | (with_reducible first | exact HB.out | apply bal | apply pdn | apply bd1 | refine bst ?_ GE162.out | refine bst ?_ GE163.out) | exact HB.out)) hb); clear BK162; clear BK163; clear HB; have BK162 := n0_; have BK163 := n1_; have HB := n2_; clear n0_ n1_ n2_; (try clear hb); (try clear hb2); (try clear hk); (try clear hi); have hcz15_0 : w14.cell? ⟨gb162, 0, none⟩ = some (.int .i64 a0_0) := (kce BK162.out 0).trans rfl; have hcz15_1 : w14.cell? ⟨gb162, 1, none⟩ = some (.int .i64 a0_1) := (kce BK162.out 1).trans rfl; have hcz15_2 : w14.cell? ⟨gb162, 2, none⟩ = some (.int .i64 a0_2) := (kce BK162.out 2).trans rfl; have hcz15_3 : w14.cell? ⟨gb162, 3, none⟩ = some (.int .i64 a0_3) := (kce BK162.out 3).trans rfl; have hcz15_4 : w14.cell? ⟨gb162, 4, none⟩ = some (.slice A0_4 l0_4.length c0_4) := (kce BK162.out 4).trans rfl; have hfz15_0 := kfr BK162.out 0; have hfz15_1 := kfr BK162.out 1; have hfz15_2 := kfr BK162.out 2; have hfz15_3 := kfr BK162.out 3; have hfz15_4 := kfr BK162.out 4; have hcz16_0 : w14.cell? ⟨gb163, 0, none⟩ = some (.int .i64 a1_0) := (kce BK163.out 0).trans rfl; have hcz16_1 : w14.cell? ⟨gb163, 1, none⟩ = some (.int .i64 a1_1) := (kce BK163.out 1).trans rfl; have hcz16_2 : w14.cell? ⟨gb163, 2, none⟩ = some (.int .i64 a1_2) := (kce BK163.out 2).trans rfl; have hcz16_3 : w14.cell? ⟨gb163, 3, none⟩ = some (.int .i64 a1_3) := (kce BK163.out 3).trans rfl; have hcz16_4 : w14.cell? ⟨gb163, 4, none⟩ = some (.slice A1_4 l1_4.length c1_4) := (kce BK163.out 4).trans rfl; have hfz16_0 := kfr BK163.out 0; have hfz16_1 := kfr BK163.out 1; have hfz16_2 := kfr BK163.out 2; have hfz16_3 := kfr BK163.out 3; have hfz16_4 := kfr BK163.out 4) | ((with_reducible refine gate_callee (f := 42) rfl ?_); refine goesL_ (some 25) rfl rfl Try.func42 (by kernel_rfl) rfl #[.slice A0_4 l0_4.length c0_4, .slice A1_4 l1_4.length c1_4] rfl (by (try simp only [mta, mco, mni]); first | done | rfl | (simp only [lnd, lnt]; rfl)) ?_; (with_reducible refine (laws_eqStringS.calls k _ _ l0_4 _ _ l1_4 true _ ?side1 ?side2 ?side3 ?side4 A7.out).mono ?_); (case side1 => repeat (first | exact (Kd.C_below HR0_4.out HB.out) | (with_reducible first | apply kca | apply kcn | apply kcd))); (case side2 => exact HC0_4.out); (case side3 => repeat (first | exact (Kd.C_below HR1_4.out HB.out) | (with_reducible first | apply kca | apply kcn | apply kcd))); (case side4 => exact HC1_4.out); rintro e w' ⟨rfl, ⟨nd, rfl⟩⟩; refine ⟨_, rfl, ?_⟩))
     go_ret
     exact ⟨by first | rfl | (simp [errW_none, errW_some] <;> rfl) | (simp [*, errW_none, errW_some] <;> rfl), by repeat (first | (with_reducible first | exact HB.out | apply bal | apply pdn | apply bd1 | refine bst ?_ GE162.out | refine bst ?_ GE163.out) | exact HB.out)⟩
    ·replace c8 := Bool.eq_false_iff.mpr c8
     subst c8
     have H1 : (some false) = some r := by rw [if_neg (show ¬ (false = true) by decide)] at H; exact H
     clear H
     have H := H1
     clear H1
     obtain rfl := Option.some.inj H
     go_enter Try.func13, Try.ntmps13
     go_wp2_with (first | ((with_reducible refine gate_dst (N := 2) rfl ?_); refine box_event ?hg (N := 2) ?hd (cs := #[.int .i64 a0_0, .int .i64 a0_1, .int .i64 a0_2, .int .i64 a0_3, .slice A0_4 l0_4.length c0_4]) (t := 32) ?hr ?_; (case hd => rfl); (case hg => rfl); (case hr => first | (go_simp; done) | (go_simp; rfl)); intro gb162 hg w17 hbox hb; have n0_ := am (below_step (by repeat (first | (with_reducible first | exact HB.out | apply bal | apply pdn | apply bd1) | exact HB.out)) hb); have n1_ := am (hbox); have n2_ := am ((by rw [hg]; exact (below_size (by repeat (first | (with_reducible first | exact HB.out | apply bal | apply pdn | apply bd1) | exact HB.out))) : w.heap.size ≤ gb162)); have n3_ := am ((by rw [hg]; exact (below_size (by repeat (first | (with_reducible first | exact HB.out | apply bal | apply pdn | apply bd1) | exact HB.out))) : w.heap.size ≤ gb162)); clear HB; have HB := n0_; have BK162 := n1_; have GW162 := n2_; have GE162 := n3_; clear n0_ n1_ n2_ n3_; clear hb hbox hg) | ((with_reducible refine gate_dst (N := 3) rfl ?_); refine box_event ?hg (N := 3) ?hd (cs := #[.int .i64 a1_0, .int .i64 a1_1, .int .i64 a1_2, .int .i64 a1_3, .slice A1_4 l1_4.length c1_4]) (t := 32) ?hr ?_; (case hd => rfl); (case hg => rfl); (case hr => first | (go_simp; done) | (go_simp; rfl)); intro gb163 hg w18 hbox hb; have n0_ := am (kbb (g := gb162) (o := .cells #[.int .i64 a0_0, .int .i64 a0_1, .int .i64 a0_2, .int .i64 a0_3, .slice A0_4 l0_4.length c0_4] 32 (0, 0)) (by (with_reducible repeat (first | apply kdn | apply kdr | apply kal)); exact BK162.out) hb); have n1_ := am (below_step (by repeat (first | (with_reducible first | exact HB.out | apply bal | apply pdn | apply bd1 | refine bst ?_ GE162.out) | exact HB.out)) hb); have n2_ := am (hbox); have n3_ := am ((by rw [hg]; exact (below_size (by repeat (first | (with_reducible first | exact HB.out | apply bal | apply pdn | apply bd1 | refine bst ?_ GE162.out) | exact HB.out))) : w.heap.size ≤ gb163)); have n4_ := am ((by rw [hg]; exact (below_size (by repeat (first | (with_reducible first | exact HB.out | apply bal | apply pdn | apply bd1 | refine bst ?_ GE162.out) | exact HB.out))) : w.heap.size ≤ gb163)); have n5_ := am ((by rw [hg]; exact Nat.ne_of_lt (blk_lt (g := gb162) (o := .cells #[.int .i64 a0_0, .int .i64 a0_1, .int .i64 a0_2, .int .i64 a0_3, .slice A0_4 l0_4.length c0_4] 32 (0, 0)) (by (with_reducible repeat (first | apply kdn | apply kdr | apply kal)); exact BK162.out)) : gb162 ≠ gb163)); have n6_ := am ((by rw [hg]; exact Nat.ne_of_gt (blk_lt (g := gb162) (o := .cells #[.int .i64 a0_0, .int .i64 a0_1, .int .i64 a0_2, .int .i64 a0_3, .slice A0_4 l0_4.length c0_4] 32 (0, 0)) (by (with_reducible repeat (first | apply kdn | apply kdr | apply kal)); exact BK162.out)) : gb163 ≠ gb162)); clear BK162; clear HB; have BK162 := n0_; have HB := n1_; have BK163 := n2_; have GW163 := n3_; have GE163 := n4_; have NB162_163 := n5_; have NB163_162 := n6_; clear n0_ n1_ n2_ n3_ n4_ n5_ n6_; clear hb hbox hg; have hnb19 := NB162_163.out; have hnc19 := NB163_162.out; have hcz20_0 : w18.cell? ⟨gb162, 0, none⟩ = some (.int .i64 a0_0) := (kce BK162.out 0).trans rfl; have hcz20_1 : w18.cell? ⟨gb162, 1, none⟩ = some (.int .i64 a0_1) := (kce BK162.out 1).trans rfl; have hcz20_2 : w18.cell? ⟨gb162, 2, none⟩ = some (.int .i64 a0_2) := (kce BK162.out 2).trans rfl; have hcz20_3 : w18.cell? ⟨gb162, 3, none⟩ = some (.int .i64 a0_3) := (kce BK162.out 3).trans rfl; have hcz20_4 : w18.cell? ⟨gb162, 4, none⟩ = some (.slice A0_4 l0_4.length c0_4) := (kce BK162.out 4).trans rfl; have hfz20_0 := kfr BK162.out 0; have hfz20_1 := kfr BK162.out 1; have hfz20_2 := kfr BK162.out 2; have hfz20_3 := kfr BK162.out 3; have hfz20_4 := kfr BK162.out 4; have hcz21_0 : w18.cell? ⟨gb163, 0, none⟩ = some (.int .i64 a1_0) := (kce BK163.out 0).trans rfl; have hcz21_1 : w18.cell? ⟨gb163, 1, none⟩ = some (.int .i64 a1_1) := (kce BK163.out 1).trans rfl; have hcz21_2 : w18.cell? ⟨gb163, 2, none⟩ = some (.int .i64 a1_2) := (kce BK163.out 2).trans rfl; have hcz21_3 : w18.cell? ⟨gb163, 3, none⟩ = some (.int .i64 a1_3) := (kce BK163.out 3).trans rfl; have hcz21_4 : w18.cell? ⟨gb163, 4, none⟩ = some (.slice A1_4 l1_4.length c1_4) := (kce BK163.out 4).trans rfl; have hfz21_0 := kfr BK163.out 0; have hfz21_1 := kfr BK163.out 1; have hfz21_2 := kfr BK163.out 2; have hfz21_3 := kfr BK163.out 3; have hfz21_4 := kfr BK163.out 4) | ((with_reducible refine gate_callee (f := 41) rfl ?_); refine goesL_ (some 9) rfl rfl Try.func41 (by kernel_rfl) rfl #[.agg #[.int .i64 a0_0, .int .i64 a0_1], .agg #[.int .i64 a1_0, .int .i64 a1_1]] rfl (by (try simp only [mta, mco, mni]); first | done | rfl | (simp only [lnd, lnt]; rfl)) ?_; (with_reducible refine (laws_eqCode.calls a0_0 a0_1 a1_0 a1_1 true _ A3.out).mono ?_); rintro e w22 ⟨rfl, hb⟩; refine ⟨_, rfl, ?_⟩; have n0_ := am (kbb (g := gb162) (o := .cells #[.int .i64 a0_0, .int .i64 a0_1, .int .i64 a0_2, .int .i64 a0_3, .slice A0_4 l0_4.length c0_4] 32 (0, 0)) (by (with_reducible repeat (first | apply kdn | apply kdr | apply kal)); exact BK162.out) hb); have n1_ := am (kbb (g := gb163) (o := .cells #[.int .i64 a1_0, .int .i64 a1_1, .int .i64 a1_2, .int .i64 a1_3, .slice A1_4 l1_4.length c1_4] 32 (0, 0)) (by (with_reducible repeat (first | apply kdn | apply kdr | apply kal)); exact BK163.out) hb); have n2_ := am (below_step (by repeat (first | (with_reducible first | exact HB.out | apply bal | apply pdn | apply bd1 | refine bst ?_ GE162.out | refine bst ?_ GE163.out) | exact HB.out)) hb); clear BK162; clear BK163; clear HB; have BK162 := n0_; have BK163 := n1_; have HB := n2_; clear n0_ n1_ n2_; (try clear hb); (try clear hb2); (try clear hk); (try clear hi); have hcz23_0 : w22.cell? ⟨gb162, 0, none⟩ = some (.int .i64 a0_0) := (kce BK162.out 0).trans rfl; have hcz23_1 : w22.cell? ⟨gb162, 1, none⟩ = some (.int .i64 a0_1) := (kce BK162.out 1).trans rfl; have hcz23_2 : w22.cell? ⟨gb162, 2, none⟩ = some (.int .i64 a0_2) := (kce BK162.out 2).trans rfl; have hcz23_3 : w22.cell? ⟨gb162, 3, none⟩ = some (.int .i64 a0_3) := (kce BK162.out 3).trans rfl; have hcz23_4 : w22.cell? ⟨gb162, 4, none⟩ = some (.slice A0_4 l0_4.length c0_4) := (kce BK162.out 4).trans rfl; have hfz23_0 := kfr BK162.out 0; have hfz23_1 := kfr BK162.out 1; have hfz23_2 := kfr BK162.out 2; have hfz23_3 := kfr BK162.out 3; have hfz23_4 := kfr BK162.out 4; have hcz24_0 : w22.cell? ⟨gb163, 0, none⟩ = some (.int .i64 a1_0) := (kce BK163.out 0).trans rfl; have hcz24_1 : w22.cell? ⟨gb163, 1, none⟩ = some (.int .i64 a1_1) := (kce BK163.out 1).trans rfl; have hcz24_2 : w22.cell? ⟨gb163, 2, none⟩ = some (.int .i64 a1_2) := (kce BK163.out 2).trans rfl; have hcz24_3 : w22.cell? ⟨gb163, 3, none⟩ = some (.int .i64 a1_3) := (kce BK163.out 3).trans rfl; have hcz24_4 : w22.cell? ⟨gb163, 4, none⟩ = some (.slice A1_4 l1_4.length c1_4) := (kce BK163.out 4).trans rfl; have hfz24_0 := kfr BK163.out 0; have hfz24_1 := kfr BK163.out 1; have hfz24_2 := kfr BK163.out 2; have hfz24_3 := kfr BK163.out 3; have hfz24_4 := kfr BK163.out 4) | ((with_reducible refine gate_callee (f := 42) rfl ?_); refine goesL_ (some 25) rfl rfl Try.func42 (by kernel_rfl) rfl #[.slice A0_4 l0_4.length c0_4, .slice A1_4 l1_4.length c1_4] rfl (by (try simp only [mta, mco, mni]); first | done | rfl | (simp only [lnd, lnt]; rfl)) ?_; (with_reducible refine (laws_eqStringS.calls k _ _ l0_4 _ _ l1_4 false _ ?side1 ?side2 ?side3 ?side4 A7.out).mono ?_); (case side1 => repeat (first | exact (Kd.C_below HR0_4.out HB.out) | (with_reducible first | apply kca | apply kcn | apply kcd))); (case side2 => exact HC0_4.out); (case side3 => repeat (first | exact (Kd.C_below HR1_4.out HB.out) | (with_reducible first | apply kca | apply kcn | apply kcd))); (case side4 => exact HC1_4.out); rintro e w' ⟨rfl, ⟨nd, rfl⟩⟩; refine ⟨_, rfl, ?_⟩))
     go_ret
     exact ⟨by first | rfl | (simp [errW_none, errW_some] <;> rfl) | (simp [*, errW_none, errW_some] <;> rfl), by repeat (first | (with_reducible first | exact HB.out | apply bal | apply pdn | apply bd1 | refine bst ?_ GE162.out | refine bst ?_ GE163.out) | exact HB.out)⟩
   ·rw [if_neg c6] at H
    have c6b0 : (a0_3 == a1_3) = false := beq_eq_false_iff_ne.mpr c6
    have c6b1 : (a0_3 != a1_3) = true := bne_iff_ne.mpr c6
    obtain rfl := Option.some.inj H
    go_enter Try.func13, Try.ntmps13
    go_wp2_with (first | ((with_reducible refine gate_dst (N := 2) rfl ?_); refine box_event ?hg (N := 2) ?hd (cs := #[.int .i64 a0_0, .int .i64 a0_1, .int .i64 a0_2, .int .i64 a0_3, .slice A0_4 l0_4.length c0_4]) (t := 32) ?hr ?_; (case hd => rfl); (case hg => rfl); (case hr => first | (go_simp; done) | (go_simp; rfl)); intro gb162 hg w25 hbox hb; have n0_ := am (below_step (by repeat (first | (with_reducible first | exact HB.out | apply bal | apply pdn | apply bd1) | exact HB.out)) hb); have n1_ := am (hbox); have n2_ := am ((by rw [hg]; exact (below_size (by repeat (first | (with_reducible first | exact HB.out | apply bal | apply pdn | apply bd1) | exact HB.out))) : w.heap.size ≤ gb162)); have n3_ := am ((by rw [hg]; exact (below_size (by repeat (first | (with_reducible first | exact HB.out | apply bal | apply pdn | apply bd1) | exact HB.out))) : w.heap.size ≤ gb162)); clear HB; have HB := n0_; have BK162 := n1_; have GW162 := n2_; have GE162 := n3_; clear n0_ n1_ n2_ n3_; clear hb hbox hg) | ((with_reducible refine gate_dst (N := 3) rfl ?_); refine box_event ?hg (N := 3) ?hd (cs := #[.int .i64 a1_0, .int .i64 a1_1, .int .i64 a1_2, .int .i64 a1_3, .slice A1_4 l1_4.length c1_4]) (t := 32) ?hr ?_; (case hd => rfl); (case hg => rfl); (case hr => first | (go_simp; done) | (go_simp; rfl)); intro gb163 hg w26 hbox hb; have n0_ := am (kbb (g := gb162) (o := .cells #[.int .i64 a0_0, .int .i64 a0_1, .int .i64 a0_2, .int .i64 a0_3, .slice A0_4 l0_4.length c0_4] 32 (0, 0)) (by (with_reducible repeat (first | apply kdn | apply kdr | apply kal)); exact BK162.out) hb); have n1_ := am (below_step (by repeat (first | (with_reducible first | exact HB.out | apply bal | apply pdn | apply bd1 | refine bst ?_ GE162.out) | exact HB.out)) hb); have n2_ := am (hbox); have n3_ := am ((by rw [hg]; exact (below_size (by repeat (first | (with_reducible first | exact HB.out | apply bal | apply pdn | apply bd1 | refine bst ?_ GE162.out) | exact HB.out))) : w.heap.size ≤ gb163)); have n4_ := am ((by rw [hg]; exact (below_size (by repeat (first | (with_reducible first | exact HB.out | apply bal | apply pdn | apply bd1 | refine bst ?_ GE162.out) | exact HB.out))) : w.heap.size ≤ gb163)); have n5_ := am ((by rw [hg]; exact Nat.ne_of_lt (blk_lt (g := gb162) (o := .cells #[.int .i64 a0_0, .int .i64 a0_1, .int .i64 a0_2, .int .i64 a0_3, .slice A0_4 l0_4.length c0_4] 32 (0, 0)) (by (with_reducible repeat (first | apply kdn | apply kdr | apply kal)); exact BK162.out)) : gb162 ≠ gb163)); have n6_ := am ((by rw [hg]; exact Nat.ne_of_gt (blk_lt (g := gb162) (o := .cells #[.int .i64 a0_0, .int .i64 a0_1, .int .i64 a0_2, .int .i64 a0_3, .slice A0_4 l0_4.length c0_4] 32 (0, 0)) (by (with_reducible repeat (first | apply kdn | apply kdr | apply kal)); exact BK162.out)) : gb163 ≠ gb162)); clear BK162; clear HB; have BK162 := n0_; have HB := n1_; have BK163 := n2_; have GW163 := n3_; have GE163 := n4_; have NB162_163 := n5_; have NB163_162 := n6_; clear n0_ n1_ n2_ n3_ n4_ n5_ n6_; clear hb hbox hg; have hnb27 := NB162_163.out; have hnc27 := NB163_162.out; have hcz28_0 : w26.cell? ⟨gb162, 0, none⟩ = some (.int .i64 a0_0) := (kce BK162.out 0).trans rfl; have hcz28_1 : w26.cell? ⟨gb162, 1, none⟩ = some (.int .i64 a0_1) := (kce BK162.out 1).trans rfl; have hcz28_2 : w26.cell? ⟨gb162, 2, none⟩ = some (.int .i64 a0_2) := (kce BK162.out 2).trans rfl; have hcz28_3 : w26.cell? ⟨gb162, 3, none⟩ = some (.int .i64 a0_3) := (kce BK162.out 3).trans rfl; have hcz28_4 : w26.cell? ⟨gb162, 4, none⟩ = some (.slice A0_4 l0_4.length c0_4) := (kce BK162.out 4).trans rfl; have hfz28_0 := kfr BK162.out 0; have hfz28_1 := kfr BK162.out 1; have hfz28_2 := kfr BK162.out 2; have hfz28_3 := kfr BK162.out 3; have hfz28_4 := kfr BK162.out 4; have hcz29_0 : w26.cell? ⟨gb163, 0, none⟩ = some (.int .i64 a1_0) := (kce BK163.out 0).trans rfl; have hcz29_1 : w26.cell? ⟨gb163, 1, none⟩ = some (.int .i64 a1_1) := (kce BK163.out 1).trans rfl; have hcz29_2 : w26.cell? ⟨gb163, 2, none⟩ = some (.int .i64 a1_2) := (kce BK163.out 2).trans rfl; have hcz29_3 : w26.cell? ⟨gb163, 3, none⟩ = some (.int .i64 a1_3) := (kce BK163.out 3).trans rfl; have hcz29_4 : w26.cell? ⟨gb163, 4, none⟩ = some (.slice A1_4 l1_4.length c1_4) := (kce BK163.out 4).trans rfl; have hfz29_0 := kfr BK163.out 0; have hfz29_1 := kfr BK163.out 1; have hfz29_2 := kfr BK163.out 2; have hfz29_3 := kfr BK163.out 3; have hfz29_4 := kfr BK163.out 4) | ((with_reducible refine gate_callee (f := 41) rfl ?_); refine goesL_ (some 9) rfl rfl Try.func41 (by kernel_rfl) rfl #[.agg #[.int .i64 a0_0, .int .i64 a0_1], .agg #[.int .i64 a1_0, .int .i64 a1_1]] rfl (by (try simp only [mta, mco, mni]); first | done | rfl | (simp only [lnd, lnt]; rfl)) ?_; (with_reducible refine (laws_eqCode.calls a0_0 a0_1 a1_0 a1_1 true _ A3.out).mono ?_); rintro e w30 ⟨rfl, hb⟩; refine ⟨_, rfl, ?_⟩; have n0_ := am (kbb (g := gb162) (o := .cells #[.int .i64 a0_0, .int .i64 a0_1, .int .i64 a0_2, .int .i64 a0_3, .slice A0_4 l0_4.length c0_4] 32 (0, 0)) (by (with_reducible repeat (first | apply kdn | apply kdr | apply kal)); exact BK162.out) hb); have n1_ := am (kbb (g := gb163) (o := .cells #[.int .i64 a1_0, .int .i64 a1_1, .int .i64 a1_2, .int .i64 a1_3, .slice A1_4 l1_4.length c1_4] 32 (0, 0)) (by (with_reducible repeat (first | apply kdn | apply kdr | apply kal)); exact BK163.out) hb); have n2_ := am (below_step (by repeat (first | (with_reducible first | exact HB.out | apply bal | apply pdn | apply bd1 | refine bst ?_ GE162.out | refine bst ?_ GE163.out) | exact HB.out)) hb); clear BK162; clear BK163; clear HB; have BK162 := n0_; have BK163 := n1_; have HB := n2_; clear n0_ n1_ n2_; (try clear hb); (try clear hb2); (try clear hk); (try clear hi); have hcz31_0 : w30.cell? ⟨gb162, 0, none⟩ = some (.int .i64 a0_0) := (kce BK162.out 0).trans rfl; have hcz31_1 : w30.cell? ⟨gb162, 1, none⟩ = some (.int .i64 a0_1) := (kce BK162.out 1).trans rfl; have hcz31_2 : w30.cell? ⟨gb162, 2, none⟩ = some (.int .i64 a0_2) := (kce BK162.out 2).trans rfl; have hcz31_3 : w30.cell? ⟨gb162, 3, none⟩ = some (.int .i64 a0_3) := (kce BK162.out 3).trans rfl; have hcz31_4 : w30.cell? ⟨gb162, 4, none⟩ = some (.slice A0_4 l0_4.length c0_4) := (kce BK162.out 4).trans rfl; have hfz31_0 := kfr BK162.out 0; have hfz31_1 := kfr BK162.out 1; have hfz31_2 := kfr BK162.out 2; have hfz31_3 := kfr BK162.out 3; have hfz31_4 := kfr BK162.out 4; have hcz32_0 : w30.cell? ⟨gb163, 0, none⟩ = some (.int .i64 a1_0) := (kce BK163.out 0).trans rfl; have hcz32_1 : w30.cell? ⟨gb163, 1, none⟩ = some (.int .i64 a1_1) := (kce BK163.out 1).trans rfl; have hcz32_2 : w30.cell? ⟨gb163, 2, none⟩ = some (.int .i64 a1_2) := (kce BK163.out 2).trans rfl; have hcz32_3 : w30.cell? ⟨gb163, 3, none⟩ = some (.int .i64 a1_3) := (kce BK163.out 3).trans rfl; have hcz32_4 : w30.cell? ⟨gb163, 4, none⟩ = some (.slice A1_4 l1_4.length c1_4) := (kce BK163.out 4).trans rfl; have hfz32_0 := kfr BK163.out 0; have hfz32_1 := kfr BK163.out 1; have hfz32_2 := kfr BK163.out 2; have hfz32_3 := kfr BK163.out 3; have hfz32_4 := kfr BK163.out 4))
    go_ret
    exact ⟨by first | rfl | (simp [errW_none, errW_some] <;> rfl) | (simp [*, errW_none, errW_some] <;> rfl), by repeat (first | (with_reducible first | exact HB.out | apply bal | apply pdn | apply bd1 | refine bst ?_ GE162.out | refine bst ?_ GE163.out) | exact HB.out)⟩
  ·rw [if_neg c5] at H
   have c5b0 : (a0_2 == a1_2) = false := beq_eq_false_iff_ne.mpr c5
   have c5b1 : (a0_2 != a1_2) = true := bne_iff_ne.mpr c5
   obtain rfl := Option.some.inj H
   go_enter Try.func13, Try.ntmps13
   go_wp2_with (first | ((with_reducible refine gate_dst (N := 2) rfl ?_); refine box_event ?hg (N := 2) ?hd (cs := #[.int .i64 a0_0, .int .i64 a0_1, .int .i64 a0_2, .int .i64 a0_3, .slice A0_4 l0_4.length c0_4]) (t := 32) ?hr ?_; (case hd => rfl); (case hg => rfl); (case hr => first | (go_simp; done) | (go_simp; rfl)); intro gb162 hg w33 hbox hb; have n0_ := am (below_step (by repeat (first | (with_reducible first | exact HB.out | apply bal | apply pdn | apply bd1) | exact HB.out)) hb); have n1_ := am (hbox); have n2_ := am ((by rw [hg]; exact (below_size (by repeat (first | (with_reducible first | exact HB.out | apply bal | apply pdn | apply bd1) | exact HB.out))) : w.heap.size ≤ gb162)); have n3_ := am ((by rw [hg]; exact (below_size (by repeat (first | (with_reducible first | exact HB.out | apply bal | apply pdn | apply bd1) | exact HB.out))) : w.heap.size ≤ gb162)); clear HB; have HB := n0_; have BK162 := n1_; have GW162 := n2_; have GE162 := n3_; clear n0_ n1_ n2_ n3_; clear hb hbox hg) | ((with_reducible refine gate_dst (N := 3) rfl ?_); refine box_event ?hg (N := 3) ?hd (cs := #[.int .i64 a1_0, .int .i64 a1_1, .int .i64 a1_2, .int .i64 a1_3, .slice A1_4 l1_4.length c1_4]) (t := 32) ?hr ?_; (case hd => rfl); (case hg => rfl); (case hr => first | (go_simp; done) | (go_simp; rfl)); intro gb163 hg w34 hbox hb; have n0_ := am (kbb (g := gb162) (o := .cells #[.int .i64 a0_0, .int .i64 a0_1, .int .i64 a0_2, .int .i64 a0_3, .slice A0_4 l0_4.length c0_4] 32 (0, 0)) (by (with_reducible repeat (first | apply kdn | apply kdr | apply kal)); exact BK162.out) hb); have n1_ := am (below_step (by repeat (first | (with_reducible first | exact HB.out | apply bal | apply pdn | apply bd1 | refine bst ?_ GE162.out) | exact HB.out)) hb); have n2_ := am (hbox); have n3_ := am ((by rw [hg]; exact (below_size (by repeat (first | (with_reducible first | exact HB.out | apply bal | apply pdn | apply bd1 | refine bst ?_ GE162.out) | exact HB.out))) : w.heap.size ≤ gb163)); have n4_ := am ((by rw [hg]; exact (below_size (by repeat (first | (with_reducible first | exact HB.out | apply bal | apply pdn | apply bd1 | refine bst ?_ GE162.out) | exact HB.out))) : w.heap.size ≤ gb163)); have n5_ := am ((by rw [hg]; exact Nat.ne_of_lt (blk_lt (g := gb162) (o := .cells #[.int .i64 a0_0, .int .i64 a0_1, .int .i64 a0_2, .int .i64 a0_3, .slice A0_4 l0_4.length c0_4] 32 (0, 0)) (by (with_reducible repeat (first | apply kdn | apply kdr | apply kal)); exact BK162.out)) : gb162 ≠ gb163)); have n6_ := am ((by rw [hg]; exact Nat.ne_of_gt (blk_lt (g := gb162) (o := .cells #[.int .i64 a0_0, .int .i64 a0_1, .int .i64 a0_2, .int .i64 a0_3, .slice A0_4 l0_4.length c0_4] 32 (0, 0)) (by (with_reducible repeat (first | apply kdn | apply kdr | apply kal)); exact BK162.out)) : gb163 ≠ gb162)); clear BK162; clear HB; have BK162 := n0_; have HB := n1_; have BK163 := n2_; have GW163 := n3_; have GE163 := n4_; have NB162_163 := n5_; have NB163_162 := n6_; clear n0_ n1_ n2_ n3_ n4_ n5_ n6_; clear hb hbox hg; have hnb35 := NB162_163.out; have hnc35 := NB163_162.out; have hcz36_0 : w34.cell? ⟨gb162, 0, none⟩ = some (.int .i64 a0_0) := (kce BK162.out 0).trans rfl; have hcz36_1 : w34.cell? ⟨gb162, 1, none⟩ = some (.int .i64 a0_1) := (kce BK162.out 1).trans rfl; have hcz36_2 : w34.cell? ⟨gb162, 2, none⟩ = some (.int .i64 a0_2) := (kce BK162.out 2).trans rfl; have hcz36_3 : w34.cell? ⟨gb162, 3, none⟩ = some (.int .i64 a0_3) := (kce BK162.out 3).trans rfl; have hcz36_4 : w34.cell? ⟨gb162, 4, none⟩ = some (.slice A0_4 l0_4.length c0_4) := (kce BK162.out 4).trans rfl; have hfz36_0 := kfr BK162.out 0; have hfz36_1 := kfr BK162.out 1; have hfz36_2 := kfr BK162.out 2; have hfz36_3 := kfr BK162.out 3; have hfz36_4 := kfr BK162.out 4; have hcz37_0 : w34.cell? ⟨gb163, 0, none⟩ = some (.int .i64 a1_0) := (kce BK163.out 0).trans rfl; have hcz37_1 : w34.cell? ⟨gb163, 1, none⟩ = some (.int .i64 a1_1) := (kce BK163.out 1).trans rfl; have hcz37_2 : w34.cell? ⟨gb163, 2, none⟩ = some (.int .i64 a1_2) := (kce BK163.out 2).trans rfl; have hcz37_3 : w34.cell? ⟨gb163, 3, none⟩ = some (.int .i64 a1_3) := (kce BK163.out 3).trans rfl; have hcz37_4 : w34.cell? ⟨gb163, 4, none⟩ = some (.slice A1_4 l1_4.length c1_4) := (kce BK163.out 4).trans rfl; have hfz37_0 := kfr BK163.out 0; have hfz37_1 := kfr BK163.out 1; have hfz37_2 := kfr BK163.out 2; have hfz37_3 := kfr BK163.out 3; have hfz37_4 := kfr BK163.out 4) | ((with_reducible refine gate_callee (f := 41) rfl ?_); refine goesL_ (some 9) rfl rfl Try.func41 (by kernel_rfl) rfl #[.agg #[.int .i64 a0_0, .int .i64 a0_1], .agg #[.int .i64 a1_0, .int .i64 a1_1]] rfl (by (try simp only [mta, mco, mni]); first | done | rfl | (simp only [lnd, lnt]; rfl)) ?_; (with_reducible refine (laws_eqCode.calls a0_0 a0_1 a1_0 a1_1 true _ A3.out).mono ?_); rintro e w38 ⟨rfl, hb⟩; refine ⟨_, rfl, ?_⟩; have n0_ := am (kbb (g := gb162) (o := .cells #[.int .i64 a0_0, .int .i64 a0_1, .int .i64 a0_2, .int .i64 a0_3, .slice A0_4 l0_4.length c0_4] 32 (0, 0)) (by (with_reducible repeat (first | apply kdn | apply kdr | apply kal)); exact BK162.out) hb); have n1_ := am (kbb (g := gb163) (o := .cells #[.int .i64 a1_0, .int .i64 a1_1, .int .i64 a1_2, .int .i64 a1_3, .slice A1_4 l1_4.length c1_4] 32 (0, 0)) (by (with_reducible repeat (first | apply kdn | apply kdr | apply kal)); exact BK163.out) hb); have n2_ := am (below_step (by repeat (first | (with_reducible first | exact HB.out | apply bal | apply pdn | apply bd1 | refine bst ?_ GE162.out | refine bst ?_ GE163.out) | exact HB.out)) hb); clear BK162; clear BK163; clear HB; have BK162 := n0_; have BK163 := n1_; have HB := n2_; clear n0_ n1_ n2_; (try clear hb); (try clear hb2); (try clear hk); (try clear hi); have hcz39_0 : w38.cell? ⟨gb162, 0, none⟩ = some (.int .i64 a0_0) := (kce BK162.out 0).trans rfl; have hcz39_1 : w38.cell? ⟨gb162, 1, none⟩ = some (.int .i64 a0_1) := (kce BK162.out 1).trans rfl; have hcz39_2 : w38.cell? ⟨gb162, 2, none⟩ = some (.int .i64 a0_2) := (kce BK162.out 2).trans rfl; have hcz39_3 : w38.cell? ⟨gb162, 3, none⟩ = some (.int .i64 a0_3) := (kce BK162.out 3).trans rfl; have hcz39_4 : w38.cell? ⟨gb162, 4, none⟩ = some (.slice A0_4 l0_4.length c0_4) := (kce BK162.out 4).trans rfl; have hfz39_0 := kfr BK162.out 0; have hfz39_1 := kfr BK162.out 1; have hfz39_2 := kfr BK162.out 2; have hfz39_3 := kfr BK162.out 3; have hfz39_4 := kfr BK162.out 4; have hcz40_0 : w38.cell? ⟨gb163, 0, none⟩ = some (.int .i64 a1_0) := (kce BK163.out 0).trans rfl; have hcz40_1 : w38.cell? ⟨gb163, 1, none⟩ = some (.int .i64 a1_1) := (kce BK163.out 1).trans rfl; have hcz40_2 : w38.cell? ⟨gb163, 2, none⟩ = some (.int .i64 a1_2) := (kce BK163.out 2).trans rfl; have hcz40_3 : w38.cell? ⟨gb163, 3, none⟩ = some (.int .i64 a1_3) := (kce BK163.out 3).trans rfl; have hcz40_4 : w38.cell? ⟨gb163, 4, none⟩ = some (.slice A1_4 l1_4.length c1_4) := (kce BK163.out 4).trans rfl; have hfz40_0 := kfr BK163.out 0; have hfz40_1 := kfr BK163.out 1; have hfz40_2 := kfr BK163.out 2; have hfz40_3 := kfr BK163.out 3; have hfz40_4 := kfr BK163.out 4))
   go_ret
   exact ⟨by first | rfl | (simp [errW_none, errW_some] <;> rfl) | (simp [*, errW_none, errW_some] <;> rfl), by repeat (first | (with_reducible first | exact HB.out | apply bal | apply pdn | apply bd1 | refine bst ?_ GE162.out | refine bst ?_ GE163.out) | exact HB.out)⟩
 ·replace c4 := Bool.eq_false_iff.mpr c4
  subst c4
  have H1 : (some false) = some r := by rw [if_neg (show ¬ (false = true) by decide)] at H; exact H
  clear H
  have H := H1
  clear H1
  obtain rfl := Option.some.inj H
  go_enter Try.func13, Try.ntmps13
  go_wp2_with (first | ((with_reducible refine gate_dst (N := 2) rfl ?_); refine box_event ?hg (N := 2) ?hd (cs := #[.int .i64 a0_0, .int .i64 a0_1, .int .i64 a0_2, .int .i64 a0_3, .slice A0_4 l0_4.length c0_4]) (t := 32) ?hr ?_; (case hd => rfl); (case hg => rfl); (case hr => first | (go_simp; done) | (go_simp; rfl)); intro gb162 hg w41 hbox hb; have n0_ := am (below_step (by repeat (first | (with_reducible first | exact HB.out | apply bal | apply pdn | apply bd1) | exact HB.out)) hb); have n1_ := am (hbox); have n2_ := am ((by rw [hg]; exact (below_size (by repeat (first | (with_reducible first | exact HB.out | apply bal | apply pdn | apply bd1) | exact HB.out))) : w.heap.size ≤ gb162)); have n3_ := am ((by rw [hg]; exact (below_size (by repeat (first | (with_reducible first | exact HB.out | apply bal | apply pdn | apply bd1) | exact HB.out))) : w.heap.size ≤ gb162)); clear HB; have HB := n0_; have BK162 := n1_; have GW162 := n2_; have GE162 := n3_; clear n0_ n1_ n2_ n3_; clear hb hbox hg) | ((with_reducible refine gate_dst (N := 3) rfl ?_); refine box_event ?hg (N := 3) ?hd (cs := #[.int .i64 a1_0, .int .i64 a1_1, .int .i64 a1_2, .int .i64 a1_3, .slice A1_4 l1_4.length c1_4]) (t := 32) ?hr ?_; (case hd => rfl); (case hg => rfl); (case hr => first | (go_simp; done) | (go_simp; rfl)); intro gb163 hg w42 hbox hb; have n0_ := am (kbb (g := gb162) (o := .cells #[.int .i64 a0_0, .int .i64 a0_1, .int .i64 a0_2, .int .i64 a0_3, .slice A0_4 l0_4.length c0_4] 32 (0, 0)) (by (with_reducible repeat (first | apply kdn | apply kdr | apply kal)); exact BK162.out) hb); have n1_ := am (below_step (by repeat (first | (with_reducible first | exact HB.out | apply bal | apply pdn | apply bd1 | refine bst ?_ GE162.out) | exact HB.out)) hb); have n2_ := am (hbox); have n3_ := am ((by rw [hg]; exact (below_size (by repeat (first | (with_reducible first | exact HB.out | apply bal | apply pdn | apply bd1 | refine bst ?_ GE162.out) | exact HB.out))) : w.heap.size ≤ gb163)); have n4_ := am ((by rw [hg]; exact (below_size (by repeat (first | (with_reducible first | exact HB.out | apply bal | apply pdn | apply bd1 | refine bst ?_ GE162.out) | exact HB.out))) : w.heap.size ≤ gb163)); have n5_ := am ((by rw [hg]; exact Nat.ne_of_lt (blk_lt (g := gb162) (o := .cells #[.int .i64 a0_0, .int .i64 a0_1, .int .i64 a0_2, .int .i64 a0_3, .slice A0_4 l0_4.length c0_4] 32 (0, 0)) (by (with_reducible repeat (first | apply kdn | apply kdr | apply kal)); exact BK162.out)) : gb162 ≠ gb163)); have n6_ := am ((by rw [hg]; exact Nat.ne_of_gt (blk_lt (g := gb162) (o := .cells #[.int .i64 a0_0, .int .i64 a0_1, .int .i64 a0_2, .int .i64 a0_3, .slice A0_4 l0_4.length c0_4] 32 (0, 0)) (by (with_reducible repeat (first | apply kdn | apply kdr | apply kal)); exact BK162.out)) : gb163 ≠ gb162)); clear BK162; clear HB; have BK162 := n0_; have HB := n1_; have BK163 := n2_; have GW163 := n3_; have GE163 := n4_; have NB162_163 := n5_; have NB163_162 := n6_; clear n0_ n1_ n2_ n3_ n4_ n5_ n6_; clear hb hbox hg; have hnb43 := NB162_163.out; have hnc43 := NB163_162.out; have hcz44_0 : w42.cell? ⟨gb162, 0, none⟩ = some (.int .i64 a0_0) := (kce BK162.out 0).trans rfl; have hcz44_1 : w42.cell? ⟨gb162, 1, none⟩ = some (.int .i64 a0_1) := (kce BK162.out 1).trans rfl; have hcz44_2 : w42.cell? ⟨gb162, 2, none⟩ = some (.int .i64 a0_2) := (kce BK162.out 2).trans rfl; have hcz44_3 : w42.cell? ⟨gb162, 3, none⟩ = some (.int .i64 a0_3) := (kce BK162.out 3).trans rfl; have hcz44_4 : w42.cell? ⟨gb162, 4, none⟩ = some (.slice A0_4 l0_4.length c0_4) := (kce BK162.out 4).trans rfl; have hfz44_0 := kfr BK162.out 0; have hfz44_1 := kfr BK162.out 1; have hfz44_2 := kfr BK162.out 2; have hfz44_3 := kfr BK162.out 3; have hfz44_4 := kfr BK162.out 4; have hcz45_0 : w42.cell? ⟨gb163, 0, none⟩ = some (.int .i64 a1_0) := (kce BK163.out 0).trans rfl; have hcz45_1 : w42.cell? ⟨gb163, 1, none⟩ = some (.int .i64 a1_1) := (kce BK163.out 1).trans rfl; have hcz45_2 : w42.cell? ⟨gb163, 2, none⟩ = some (.int .i64 a1_2) := (kce BK163.out 2).trans rfl; have hcz45_3 : w42.cell? ⟨gb163, 3, none⟩ = some (.int .i64 a1_3) := (kce BK163.out 3).trans rfl; have hcz45_4 : w42.cell? ⟨gb163, 4, none⟩ = some (.slice A1_4 l1_4.length c1_4) := (kce BK163.out 4).trans rfl; have hfz45_0 := kfr BK163.out 0; have hfz45_1 := kfr BK163.out 1; have hfz45_2 := kfr BK163.out 2; have hfz45_3 := kfr BK163.out 3; have hfz45_4 := kfr BK163.out 4) | ((with_reducible refine gate_callee (f := 41) rfl ?_); refine goesL_ (some 9) rfl rfl Try.func41 (by kernel_rfl) rfl #[.agg #[.int .i64 a0_0, .int .i64 a0_1], .agg #[.int .i64 a1_0, .int .i64 a1_1]] rfl (by (try simp only [mta, mco, mni]); first | done | rfl | (simp only [lnd, lnt]; rfl)) ?_; (with_reducible refine (laws_eqCode.calls a0_0 a0_1 a1_0 a1_1 false _ A3.out).mono ?_); rintro e w46 ⟨rfl, hb⟩; refine ⟨_, rfl, ?_⟩; have n0_ := am (kbb (g := gb162) (o := .cells #[.int .i64 a0_0, .int .i64 a0_1, .int .i64 a0_2, .int .i64 a0_3, .slice A0_4 l0_4.length c0_4] 32 (0, 0)) (by (with_reducible repeat (first | apply kdn | apply kdr | apply kal)); exact BK162.out) hb); have n1_ := am (kbb (g := gb163) (o := .cells #[.int .i64 a1_0, .int .i64 a1_1, .int .i64 a1_2, .int .i64 a1_3, .slice A1_4 l1_4.length c1_4] 32 (0, 0)) (by (with_reducible repeat (first | apply kdn | apply kdr | apply kal)); exact BK163.out) hb); have n2_ := am (below_step (by repeat (first | (with_reducible first | exact HB.out | apply bal | apply pdn | apply bd1 | refine bst ?_ GE162.out | refine bst ?_ GE163.out) | exact HB.out)) hb); clear BK162; clear BK163; clear HB; have BK162 := n0_; have BK163 := n1_; have HB := n2_; clear n0_ n1_ n2_; (try clear hb); (try clear hb2); (try clear hk); (try clear hi)))
  go_ret
  exact ⟨by first | rfl | (simp [errW_none, errW_some] <;> rfl) | (simp [*, errW_none, errW_some] <;> rfl), by repeat (first | (with_reducible first | exact HB.out | apply bal | apply pdn | apply bd1 | refine bst ?_ GE162.out | refine bst ?_ GE163.out) | exact HB.out)⟩

end Go.Proofs.Ytmpakjgbbjkacaa.MFnExactWideBody
