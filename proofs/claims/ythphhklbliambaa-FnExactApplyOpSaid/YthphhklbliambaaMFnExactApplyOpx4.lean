-- Written by a program of this session (wip/tools/myprint.py) over the kit's print: it is not the kit's print.
import Derived.Test.YthphhklbliambaaExtra
import Derived.Test.YthphhklbliambaaMFnExactApplyOpx0
import Derived.Test.YthphhklbliambaaMFnExactApplyOpx1
import Derived.Test.YthphhklbliambaaMFnExactApplyOpx2
import Derived.Test.YthphhklbliambaaMFnExactApplyOpx3
namespace Go.Proofs.Ythphhklbliambaa.MFnExactApplyOp
open Go.RowKit Go.Proofs.YthphhklbliambaaW.PrintWords Go.Proofs.YthphhklbliambaaW.PrintLast Go.Proofs.YthphhklbliambaaW.PrintMore
open List renaming setIfInBounds_toArray → sit, set_cons_zero → scz, set_cons_succ → scs, map_toArray → mta, map_cons → mco, map_nil → mni, length_drop → lnd, length_take → lnt
attribute [local go_sem] max2_int min2_int max_two min_two max_three min_three max_four min_four   -- for this text's walks alone
set_option linter.unusedVariables false
set_option linter.unusedSimpArgs false

/-! ### impl_ApplyOp: function 44 -/
def impl_ApplyOp.f (k : Nat) (a0 : ByteArray) (a1 : Bool) (a2_0 : Int) (a2_1 : Int) (a2_2 : ByteArray) : Option (ByteArray × Bool) := (impl_plainCode.f).bind fun bt135 => ((impl_OpOk.f k bt135.1 bt135.2 a2_0 a2_1 a2_2).bind fun t137 => (if t137 = true then (if (a0.size : Int) > 64 then (some ((⟨#[]⟩ : ByteArray), false)) else ((impl_Op_apply.f k a2_0 a2_1 a2_2 a0 a1).bind fun bt138 => (some (bt138.1, bt138.2)))) else (some ((⟨#[]⟩ : ByteArray), false))))
theorem impl_ApplyOp.mono : ∀ a0 a1 a2 a3 a4 k, LeO (impl_ApplyOp.f k a0 a1 a2 a3 a4) (impl_ApplyOp.f (k + 1) a0 a1 a2 a3 a4) := by
 intro a0 a1 a2 a3 a4 k
 unfold impl_ApplyOp.f
 repeat' first
   | (with_reducible exact impl_OpOk.mono _ _ _ _ _ _)
   | (with_reducible exact impl_Op_apply.mono _ _ _ _ _ _)
   | (with_reducible exact LeO.refl _)
   | (with_reducible exact LeO.none _)
   | (with_reducible refine LeO.ite ?_ ?_)
   | (with_reducible refine LeO.bind ?_ (fun _ => ?_))
   | exact impl_OpOk.mono _ _ _ _ _ _
   | exact impl_Op_apply.mono _ _ _ _ _ _
   | exact LeO.none _
   | refine LeO.ite ?_ ?_
   | refine LeO.bind ?_ (fun _ => ?_)
def impl_ApplyOp.T1 : Bool × List (List Nat × List Nat) := (true, [([], []), ([], []), ([0, 1, 0], [0, 1]), ([2], [2]), ([3, 2], [3]), ([4], [4]), ([5, 4], [4, 5]), ([6, 4], [4, 6]), ([4, 7], [4, 7])])
def impl_ApplyOp.B1 : List Nat := [0, 0, 3, 7, 15, 31, 63, 127, 255]
theorem impl_ApplyOp.tab1 : rtab .any (opsOf Try.f44 1) = impl_ApplyOp.T1 := by kernel_rfl
theorem impl_ApplyOp.bits1 : waitsOk impl_ApplyOp.T1.2 impl_ApplyOp.B1 = true := by kernel_rfl
set_option maxHeartbeats 8000000 in
set_option maxRecDepth 100000 in
theorem impl_ApplyOp.calls (k : Nat) (a0 : ByteArray) (a1 : Bool) (a2_0 : Int) (a2_1 : Int) (a2_2 : ByteArray) (r1 : ByteArray) (r2 : Bool) (w : World) (h : impl_ApplyOp.f k a0 a1 a2_0 a2_1 a2_2 = some (r1, r2)) :
  Calls Try.prog 44 #[.string a0, .bool a1, .agg #[.int .i64 a2_0, .int .i64 a2_1, .string a2_2]] w fun e w' => e = .returned (.tuple #[.string r1, .bool r2]) ∧ Below w.heap.size w w' := by
 have hu60 := Try.underlying60
 have HB := am (Below.refl w.heap.size w)
 have H : ((impl_plainCode.f).bind fun bt135 => ((impl_OpOk.f k bt135.1 bt135.2 a2_0 a2_1 a2_2).bind fun t137 => (if t137 = true then (if (a0.size : Int) > 64 then (some ((⟨#[]⟩ : ByteArray), false)) else ((impl_Op_apply.f k a2_0 a2_1 a2_2 a0 a1).bind fun bt138 => (some (bt138.1, bt138.2)))) else (some ((⟨#[]⟩ : ByteArray), false))))) = some (r1, r2) := h
 clear h
 replace H := Option.bind_eq_some_iff.mp H
 obtain ⟨⟨t135, t136⟩, A40, H⟩ := H
 replace H : ((impl_OpOk.f k t135 t136 a2_0 a2_1 a2_2).bind fun t137 => (if t137 = true then (if (a0.size : Int) > 64 then (some ((⟨#[]⟩ : ByteArray), false)) else ((impl_Op_apply.f k a2_0 a2_1 a2_2 a0 a1).bind fun bt138 => (some (bt138.1, bt138.2)))) else (some ((⟨#[]⟩ : ByteArray), false)))) = some (r1, r2) := H
 have A4 := am A40
 clear A40
 replace H := Option.bind_eq_some_iff.mp H
 obtain ⟨t137, A50, H⟩ := H
 replace H : (if t137 = true then (if (a0.size : Int) > 64 then (some ((⟨#[]⟩ : ByteArray), false)) else ((impl_Op_apply.f k a2_0 a2_1 a2_2 a0 a1).bind fun bt138 => (some (bt138.1, bt138.2)))) else (some ((⟨#[]⟩ : ByteArray), false))) = some (r1, r2) := H
 have A5 := am A50
 clear A50
 by_cases c6 : t137 = true
 ·subst c6
  have H1 : (if (a0.size : Int) > 64 then (some ((⟨#[]⟩ : ByteArray), false)) else ((impl_Op_apply.f k a2_0 a2_1 a2_2 a0 a1).bind fun bt138 => (some (bt138.1, bt138.2)))) = some (r1, r2) := by rw [if_pos rfl] at H; exact H
  clear H
  have H := H1
  clear H1
  by_cases c7 : (a0.size : Int) > 64
  ·rw [if_pos c7] at H
   have c7b0 : decide (64 < (a0.size : Int)) = true := decide_eq_true c7
   have c7b1 : decide (64 < a0.size) = true := decide_eq_true (by omega)
   clear c7
   simp only [Option.some.injEq, Prod.mk.injEq] at H
   obtain ⟨rfl, rfl⟩ := H
   go_enter Try.func44, Try.ntmps44
   try go_wp2_with (first | ((with_reducible refine gate_dst (N := 5) rfl ?_); (try (refine gate_guard (by rfl) ?_; dsimp only)); refine box_event ?hg (N := 5) ?hd (cs := #[.int .i64 a2_0, .int .i64 a2_1, .string a2_2]) (t := 60) ?hr ?_; (case hd => rfl); (case hg => rfl); (case hr => first | (go_simp; done) | (go_simp; rfl)); intro gb134 hg w8 hbox hb; have n0_ := am (below_step (by repeat (first | (with_reducible first | exact HB.out | apply bal | apply pdn | apply bd1) | exact HB.out)) hb); have n1_ := am (hbox); have n2_ := am ((by rw [hg]; exact (below_size (by repeat (first | (with_reducible first | exact HB.out | apply bal | apply pdn | apply bd1) | exact HB.out))) : w.heap.size ≤ gb134)); have n3_ := am ((by rw [hg]; exact (below_size (by repeat (first | (with_reducible first | exact HB.out | apply bal | apply pdn | apply bd1) | exact HB.out))) : w.heap.size ≤ gb134)); clear HB; have HB := n0_; have BK134 := n1_; have GW134 := n2_; have GE134 := n3_; clear n0_ n1_ n2_ n3_; clear hb hbox hg))
   have n0_ := am (kdr BK134.out)
   have n1_ := am (bd1 HB.out)
   clear BK134
   clear HB
   have BK134 := n0_
   have HB := n1_
   clear n0_ n1_
   refine start_ (n := 9) (S := fun w' => w'.cell? ⟨gb134, 0, none⟩ = some (.int .i64 a2_0) ∧ w'.cell? ⟨gb134, 1, none⟩ = some (.int .i64 a2_1) ∧ w'.cell? ⟨gb134, 2, none⟩ = some (.string a2_2)) (ds := []) #[false, false, false, false, false, false, false, false, false] (by kernel_rfl) rfl rfl ⟨(kce BK134.out 0).trans rfl, (kce BK134.out 1).trans rfl, (kce BK134.out 2).trans rfl⟩ (fun hHeld => ?_); refine with_tabW impl_ApplyOp.tab1 impl_ApplyOp.bits1 (fun HT_ HW_ => ?_)
   generalize w8.drew = w9 at BK134 HB hHeld ⊢
   refine take_ (i := 1) (N := some 9) (v := ?_) (a' := ?_) #[false, true, false, false, false, false, false, false, false] rfl rfl (take_ofW HT_.out HW_.out (by kernel_rfl)) (fun _ _ _ h => h) (Or.inl ⟨by rfl, ?_⟩) hHeld ?_ ?_
   rotate_left
   ·rintro w' ⟨s0, s1, s2⟩
    go_simp
    with_reducible rfl
   rotate_left
   ·simp only [Act.put, sit, scz, scs, i64_w, i32_w]
    rfl
   refine one_ (i := 0) (N := some 8) #[true, true, false, false, false, false, false, false, false] rfl rfl (one_of HT_.out (by kernel_rfl)) (by decide) (fun K hK => ?_)
   refine goes_ Try.func87 (by kernel_rfl) rfl #[] (by rfl) rfl rfl (by (try simp only [mta, mco, mni]); first | done | rfl | (simp only [lnd, lnt]; rfl)) ?_
   with_reducible refine (impl_plainCode.calls  t135 t136 _ A4.out).mono ?_
   rintro e w10 ⟨rfl, hb⟩
   refine ⟨_, rfl, ?_⟩
   have n0_ := am (kbb (g := gb134) (o := .cells #[.int .i64 a2_0, .int .i64 a2_1, .string a2_2] 60 (0, 0)) (by (with_reducible repeat (first | apply kdn | apply kdr | apply kal)); exact BK134.out) hb)
   have n1_ := am (below_step (by repeat (first | (with_reducible first | exact HB.out | apply bal | apply pdn | apply bd1 | refine bst ?_ GE134.out) | exact HB.out)) hb)
   clear BK134
   clear HB
   have BK134 := n0_
   have HB := n1_
   clear n0_ n1_
   refine hK.out _ _ ⟨(kce BK134.out 0).trans rfl, (kce BK134.out 1).trans rfl, (kce BK134.out 2).trans rfl⟩ (fun hHeld => ?_)
   clear hK K
   refine norm_ (a' := ?_) ?_ ?_
   rotate_left
   ·show Act.put _ (some 8) _ = _
    simp only [Act.put, sit, scz, scs, i64_w, i32_w]
    rfl
   refine one_ (i := 2) (N := some 10) #[true, true, true, false, false, false, false, false, false] rfl rfl (one_of HT_.out (by kernel_rfl)) (by decide) (fun K hK => ?_)
   refine goes_ Try.func86 (by kernel_rfl) rfl #[.agg #[.int .i64 t135, .int .i64 t136], .agg #[.int .i64 a2_0, .int .i64 a2_1, .string a2_2]] (by rfl) rfl rfl (by (try simp only [mta, mco, mni]); first | done | rfl | (simp only [lnd, lnt]; rfl)) ?_
   with_reducible refine (impl_OpOk.calls k t135 t136 a2_0 a2_1 a2_2 true _ A5.out).mono ?_
   rintro e w11 ⟨rfl, hb⟩
   refine ⟨_, rfl, ?_⟩
   have n0_ := am (kbb (g := gb134) (o := .cells #[.int .i64 a2_0, .int .i64 a2_1, .string a2_2] 60 (0, 0)) (by (with_reducible repeat (first | apply kdn | apply kdr | apply kal)); exact BK134.out) hb)
   have n1_ := am (below_step (by repeat (first | (with_reducible first | exact HB.out | apply bal | apply pdn | apply bd1 | refine bst ?_ GE134.out) | exact HB.out)) hb)
   clear BK134
   clear HB
   have BK134 := n0_
   have HB := n1_
   clear n0_ n1_
   refine hK.out _ _ ⟨(kce BK134.out 0).trans rfl, (kce BK134.out 1).trans rfl, (kce BK134.out 2).trans rfl⟩ (fun hHeld => ?_)
   clear hK K
   refine norm_ (a' := ?_) ?_ ?_
   rotate_left
   ·show Act.put _ (some 10) _ = _
    simp only [Act.put, sit, scz, scs, i64_w, i32_w]
    rfl
   refine pure_ (i := 3) (N := some 11) (v := ?_) (a' := ?_) #[true, true, true, true, false, false, false, false, false] rfl rfl (any_of HT_.out (by kernel_rfl)) (fun _ _ _ h => h) (Or.inl ⟨by rfl, ?_⟩) ?_ ?_
   rotate_left
   ·intro w'
    go_simp
    with_reducible rfl
   rotate_left
   ·simp only [Act.put, sit, scz, scs, i64_w, i32_w]
    rfl
   refine pure_ (i := 4) (N := some 12) (v := ?_) (a' := ?_) #[true, true, true, true, true, false, false, false, false] rfl rfl (any_of HT_.out (by kernel_rfl)) (fun _ _ _ h => h) (Or.inl ⟨by rfl, ?_⟩) ?_ ?_
   rotate_left
   ·intro w'
    go_simp
    with_reducible rfl
   rotate_left
   ·simp only [Act.put, sit, scz, scs, i64_w, i32_w]
    rfl
   refine pure_ (i := 5) (N := some 13) (v := ?_) (a' := ?_) #[true, true, true, true, true, true, false, false, false] rfl rfl (any_of HT_.out (by kernel_rfl)) (fun _ _ _ h => h) (Or.inl ⟨by rfl, ?_⟩) ?_ ?_
   rotate_left
   ·intro w'
    go_simp
    with_reducible rfl
   rotate_left
   ·simp only [Act.put, sit, scz, scs, i64_w, i32_w]
    rfl
   refine pure_ (i := 6) (N := some 14) (v := ?_) (a' := ?_) #[true, true, true, true, true, true, true, false, false] rfl rfl (any_of HT_.out (by kernel_rfl)) (fun _ _ _ h => h) (Or.inl ⟨by rfl, ?_⟩) ?_ ?_
   rotate_left
   ·intro w'
    go_simp
    with_reducible rfl
   rotate_left
   ·simp only [Act.put, sit, scz, scs, i64_w, i32_w]
    rfl
   refine pure_ (i := 7) (N := some 15) (v := ?_) (a' := ?_) #[true, true, true, true, true, true, true, true, false] rfl rfl (any_of HT_.out (by kernel_rfl)) (fun _ _ _ h => h) (Or.inl ⟨by rfl, ?_⟩) ?_ ?_
   rotate_left
   ·intro w'
    go_simp
    with_reducible rfl
   rotate_left
   ·simp only [Act.put, sit, scz, scs, i64_w, i32_w]
    rfl
   refine pure_ (i := 8) (N := some 16) (v := ?_) (a' := ?_) #[true, true, true, true, true, true, true, true, true] rfl rfl (any_of HT_.out (by kernel_rfl)) (fun _ _ _ h => h) (Or.inl ⟨by rfl, ?_⟩) ?_ ?_
   rotate_left
   ·intro w'
    go_simp
    with_reducible rfl
   rotate_left
   ·simp only [Act.put, sit, scz, scs, i64_w, i32_w]
    rfl
   refine done_ (done_of HT_.out (by kernel_rfl)) ?_
   try go_wp2
   go_ret2
   exact ⟨by first | rfl | (simp [errW_none, errW_some] <;> rfl) | (simp [*, errW_none, errW_some] <;> rfl), by repeat (first | (with_reducible first | exact HB.out | apply bal | apply pdn | apply bd1 | refine bst ?_ GE134.out) | exact HB.out)⟩
  ·rw [if_neg c7] at H
   have c7b0 : decide (64 < (a0.size : Int)) = false := decide_eq_false c7
   have c7b1 : decide (64 < a0.size) = false := decide_eq_false (by omega)
   clear c7
   replace H := Option.bind_eq_some_iff.mp H
   obtain ⟨⟨t138, t139⟩, A120, H⟩ := H
   replace H : (some (t138, t139)) = some (r1, r2) := H
   have A12 := am A120
   clear A120
   simp only [Option.some.injEq, Prod.mk.injEq] at H
   obtain ⟨rfl, rfl⟩ := H
   go_enter Try.func44, Try.ntmps44
   try go_wp2_with (first | ((with_reducible refine gate_dst (N := 5) rfl ?_); (try (refine gate_guard (by rfl) ?_; dsimp only)); refine box_event ?hg (N := 5) ?hd (cs := #[.int .i64 a2_0, .int .i64 a2_1, .string a2_2]) (t := 60) ?hr ?_; (case hd => rfl); (case hg => rfl); (case hr => first | (go_simp; done) | (go_simp; rfl)); intro gb134 hg w13 hbox hb; have n0_ := am (below_step (by repeat (first | (with_reducible first | exact HB.out | apply bal | apply pdn | apply bd1) | exact HB.out)) hb); have n1_ := am (hbox); have n2_ := am ((by rw [hg]; exact (below_size (by repeat (first | (with_reducible first | exact HB.out | apply bal | apply pdn | apply bd1) | exact HB.out))) : w.heap.size ≤ gb134)); have n3_ := am ((by rw [hg]; exact (below_size (by repeat (first | (with_reducible first | exact HB.out | apply bal | apply pdn | apply bd1) | exact HB.out))) : w.heap.size ≤ gb134)); clear HB; have HB := n0_; have BK134 := n1_; have GW134 := n2_; have GE134 := n3_; clear n0_ n1_ n2_ n3_; clear hb hbox hg))
   have n0_ := am (kdr BK134.out)
   have n1_ := am (bd1 HB.out)
   clear BK134
   clear HB
   have BK134 := n0_
   have HB := n1_
   clear n0_ n1_
   refine start_ (n := 9) (S := fun w' => w'.cell? ⟨gb134, 0, none⟩ = some (.int .i64 a2_0) ∧ w'.cell? ⟨gb134, 1, none⟩ = some (.int .i64 a2_1) ∧ w'.cell? ⟨gb134, 2, none⟩ = some (.string a2_2)) (ds := []) #[false, false, false, false, false, false, false, false, false] (by kernel_rfl) rfl rfl ⟨(kce BK134.out 0).trans rfl, (kce BK134.out 1).trans rfl, (kce BK134.out 2).trans rfl⟩ (fun hHeld => ?_); refine with_tabW impl_ApplyOp.tab1 impl_ApplyOp.bits1 (fun HT_ HW_ => ?_)
   generalize w13.drew = w14 at BK134 HB hHeld ⊢
   refine take_ (i := 1) (N := some 9) (v := ?_) (a' := ?_) #[false, true, false, false, false, false, false, false, false] rfl rfl (take_ofW HT_.out HW_.out (by kernel_rfl)) (fun _ _ _ h => h) (Or.inl ⟨by rfl, ?_⟩) hHeld ?_ ?_
   rotate_left
   ·rintro w' ⟨s0, s1, s2⟩
    go_simp
    with_reducible rfl
   rotate_left
   ·simp only [Act.put, sit, scz, scs, i64_w, i32_w]
    rfl
   refine one_ (i := 0) (N := some 8) #[true, true, false, false, false, false, false, false, false] rfl rfl (one_of HT_.out (by kernel_rfl)) (by decide) (fun K hK => ?_)
   refine goes_ Try.func87 (by kernel_rfl) rfl #[] (by rfl) rfl rfl (by (try simp only [mta, mco, mni]); first | done | rfl | (simp only [lnd, lnt]; rfl)) ?_
   with_reducible refine (impl_plainCode.calls  t135 t136 _ A4.out).mono ?_
   rintro e w15 ⟨rfl, hb⟩
   refine ⟨_, rfl, ?_⟩
   have n0_ := am (kbb (g := gb134) (o := .cells #[.int .i64 a2_0, .int .i64 a2_1, .string a2_2] 60 (0, 0)) (by (with_reducible repeat (first | apply kdn | apply kdr | apply kal)); exact BK134.out) hb)
   have n1_ := am (below_step (by repeat (first | (with_reducible first | exact HB.out | apply bal | apply pdn | apply bd1 | refine bst ?_ GE134.out) | exact HB.out)) hb)
   clear BK134
   clear HB
   have BK134 := n0_
   have HB := n1_
   clear n0_ n1_
   refine hK.out _ _ ⟨(kce BK134.out 0).trans rfl, (kce BK134.out 1).trans rfl, (kce BK134.out 2).trans rfl⟩ (fun hHeld => ?_)
   clear hK K
   refine norm_ (a' := ?_) ?_ ?_
   rotate_left
   ·show Act.put _ (some 8) _ = _
    simp only [Act.put, sit, scz, scs, i64_w, i32_w]
    rfl
   refine one_ (i := 2) (N := some 10) #[true, true, true, false, false, false, false, false, false] rfl rfl (one_of HT_.out (by kernel_rfl)) (by decide) (fun K hK => ?_)
   refine goes_ Try.func86 (by kernel_rfl) rfl #[.agg #[.int .i64 t135, .int .i64 t136], .agg #[.int .i64 a2_0, .int .i64 a2_1, .string a2_2]] (by rfl) rfl rfl (by (try simp only [mta, mco, mni]); first | done | rfl | (simp only [lnd, lnt]; rfl)) ?_
   with_reducible refine (impl_OpOk.calls k t135 t136 a2_0 a2_1 a2_2 true _ A5.out).mono ?_
   rintro e w16 ⟨rfl, hb⟩
   refine ⟨_, rfl, ?_⟩
   have n0_ := am (kbb (g := gb134) (o := .cells #[.int .i64 a2_0, .int .i64 a2_1, .string a2_2] 60 (0, 0)) (by (with_reducible repeat (first | apply kdn | apply kdr | apply kal)); exact BK134.out) hb)
   have n1_ := am (below_step (by repeat (first | (with_reducible first | exact HB.out | apply bal | apply pdn | apply bd1 | refine bst ?_ GE134.out) | exact HB.out)) hb)
   clear BK134
   clear HB
   have BK134 := n0_
   have HB := n1_
   clear n0_ n1_
   refine hK.out _ _ ⟨(kce BK134.out 0).trans rfl, (kce BK134.out 1).trans rfl, (kce BK134.out 2).trans rfl⟩ (fun hHeld => ?_)
   clear hK K
   refine norm_ (a' := ?_) ?_ ?_
   rotate_left
   ·show Act.put _ (some 10) _ = _
    simp only [Act.put, sit, scz, scs, i64_w, i32_w]
    rfl
   refine pure_ (i := 3) (N := some 11) (v := ?_) (a' := ?_) #[true, true, true, true, false, false, false, false, false] rfl rfl (any_of HT_.out (by kernel_rfl)) (fun _ _ _ h => h) (Or.inl ⟨by rfl, ?_⟩) ?_ ?_
   rotate_left
   ·intro w'
    go_simp
    with_reducible rfl
   rotate_left
   ·simp only [Act.put, sit, scz, scs, i64_w, i32_w]
    rfl
   refine pure_ (i := 4) (N := some 12) (v := ?_) (a' := ?_) #[true, true, true, true, true, false, false, false, false] rfl rfl (any_of HT_.out (by kernel_rfl)) (fun _ _ _ h => h) (Or.inl ⟨by rfl, ?_⟩) ?_ ?_
   rotate_left
   ·intro w'
    go_simp
    with_reducible rfl
   rotate_left
   ·simp only [Act.put, sit, scz, scs, i64_w, i32_w]
    rfl
   refine pure_ (i := 5) (N := some 13) (v := ?_) (a' := ?_) #[true, true, true, true, true, true, false, false, false] rfl rfl (any_of HT_.out (by kernel_rfl)) (fun _ _ _ h => h) (Or.inl ⟨by rfl, ?_⟩) ?_ ?_
   rotate_left
   ·intro w'
    go_simp
    with_reducible rfl
   rotate_left
   ·simp only [Act.put, sit, scz, scs, i64_w, i32_w]
    rfl
   refine pure_ (i := 6) (N := some 14) (v := ?_) (a' := ?_) #[true, true, true, true, true, true, true, false, false] rfl rfl (any_of HT_.out (by kernel_rfl)) (fun _ _ _ h => h) (Or.inl ⟨by rfl, ?_⟩) ?_ ?_
   rotate_left
   ·intro w'
    go_simp
    with_reducible rfl
   rotate_left
   ·simp only [Act.put, sit, scz, scs, i64_w, i32_w]
    rfl
   refine pure_ (i := 7) (N := some 15) (v := ?_) (a' := ?_) #[true, true, true, true, true, true, true, true, false] rfl rfl (any_of HT_.out (by kernel_rfl)) (fun _ _ _ h => h) (Or.inl ⟨by rfl, ?_⟩) ?_ ?_
   rotate_left
   ·intro w'
    go_simp
    with_reducible rfl
   rotate_left
   ·simp only [Act.put, sit, scz, scs, i64_w, i32_w]
    rfl
   refine pure_ (i := 8) (N := some 16) (v := ?_) (a' := ?_) #[true, true, true, true, true, true, true, true, true] rfl rfl (any_of HT_.out (by kernel_rfl)) (fun _ _ _ h => h) (Or.inl ⟨by rfl, ?_⟩) ?_ ?_
   rotate_left
   ·intro w'
    go_simp
    with_reducible rfl
   rotate_left
   ·simp only [Act.put, sit, scz, scs, i64_w, i32_w]
    rfl
   refine done_ (done_of HT_.out (by kernel_rfl)) ?_
   have hcz17_0 : w16.cell? ⟨gb134, 0, none⟩ = some (.int .i64 a2_0) := (kce BK134.out 0).trans rfl
   have hcz17_1 : w16.cell? ⟨gb134, 1, none⟩ = some (.int .i64 a2_1) := (kce BK134.out 1).trans rfl
   have hcz17_2 : w16.cell? ⟨gb134, 2, none⟩ = some (.string a2_2) := (kce BK134.out 2).trans rfl
   have hfz17_0 := kfr BK134.out 0
   have hfz17_1 := kfr BK134.out 1
   have hfz17_2 := kfr BK134.out 2
   try go_wp2_with (first | ((with_reducible refine gate_callee (f := 96) rfl ?_); refine goesL_ (some 20) rfl rfl Try.func96 (by kernel_rfl) rfl #[.agg #[.int .i64 a2_0, .int .i64 a2_1, .string a2_2], .string a0, .bool a1] rfl (by (try simp only [mta, mco, mni]); first | done | rfl | (simp only [lnd, lnt]; rfl)) ?_; (with_reducible refine (impl_Op_apply.calls k a2_0 a2_1 a2_2 a0 a1 t138 t139 _ A12.out).mono ?_); rintro e w18 ⟨rfl, hb⟩; refine ⟨_, rfl, ?_⟩; have n0_ := am (kbb (g := gb134) (o := .cells #[.int .i64 a2_0, .int .i64 a2_1, .string a2_2] 60 (0, 0)) (by (with_reducible repeat (first | apply kdn | apply kdr | apply kal)); exact BK134.out) hb); have n1_ := am (below_step (by repeat (first | (with_reducible first | exact HB.out | apply bal | apply pdn | apply bd1 | refine bst ?_ GE134.out) | exact HB.out)) hb); clear BK134; clear HB; have BK134 := n0_; have HB := n1_; clear n0_ n1_; (try clear hb); (try clear hb2); (try clear hk); (try clear hi)))
   go_ret2
   exact ⟨by first | rfl | (simp [errW_none, errW_some] <;> rfl) | (simp [*, errW_none, errW_some] <;> rfl), by repeat (first | (with_reducible first | exact HB.out | apply bal | apply pdn | apply bd1 | refine bst ?_ GE134.out) | exact HB.out)⟩
 ·replace c6 := Bool.eq_false_iff.mpr c6
  subst c6
  have H1 : (some ((⟨#[]⟩ : ByteArray), false)) = some (r1, r2) := by rw [if_neg (show ¬ (false = true) by decide)] at H; exact H
  clear H
  have H := H1
  clear H1
  simp only [Option.some.injEq, Prod.mk.injEq] at H
  obtain ⟨rfl, rfl⟩ := H
  go_enter Try.func44, Try.ntmps44
  try go_wp2_with (first | ((with_reducible refine gate_dst (N := 5) rfl ?_); (try (refine gate_guard (by rfl) ?_; dsimp only)); refine box_event ?hg (N := 5) ?hd (cs := #[.int .i64 a2_0, .int .i64 a2_1, .string a2_2]) (t := 60) ?hr ?_; (case hd => rfl); (case hg => rfl); (case hr => first | (go_simp; done) | (go_simp; rfl)); intro gb134 hg w19 hbox hb; have n0_ := am (below_step (by repeat (first | (with_reducible first | exact HB.out | apply bal | apply pdn | apply bd1) | exact HB.out)) hb); have n1_ := am (hbox); have n2_ := am ((by rw [hg]; exact (below_size (by repeat (first | (with_reducible first | exact HB.out | apply bal | apply pdn | apply bd1) | exact HB.out))) : w.heap.size ≤ gb134)); have n3_ := am ((by rw [hg]; exact (below_size (by repeat (first | (with_reducible first | exact HB.out | apply bal | apply pdn | apply bd1) | exact HB.out))) : w.heap.size ≤ gb134)); clear HB; have HB := n0_; have BK134 := n1_; have GW134 := n2_; have GE134 := n3_; clear n0_ n1_ n2_ n3_; clear hb hbox hg))
  have n0_ := am (kdr BK134.out)
  have n1_ := am (bd1 HB.out)
  clear BK134
  clear HB
  have BK134 := n0_
  have HB := n1_
  clear n0_ n1_
  refine start_ (n := 9) (S := fun w' => w'.cell? ⟨gb134, 0, none⟩ = some (.int .i64 a2_0) ∧ w'.cell? ⟨gb134, 1, none⟩ = some (.int .i64 a2_1) ∧ w'.cell? ⟨gb134, 2, none⟩ = some (.string a2_2)) (ds := []) #[false, false, false, false, false, false, false, false, false] (by kernel_rfl) rfl rfl ⟨(kce BK134.out 0).trans rfl, (kce BK134.out 1).trans rfl, (kce BK134.out 2).trans rfl⟩ (fun hHeld => ?_); refine with_tabW impl_ApplyOp.tab1 impl_ApplyOp.bits1 (fun HT_ HW_ => ?_)
  generalize w19.drew = w20 at BK134 HB hHeld ⊢
  refine take_ (i := 1) (N := some 9) (v := ?_) (a' := ?_) #[false, true, false, false, false, false, false, false, false] rfl rfl (take_ofW HT_.out HW_.out (by kernel_rfl)) (fun _ _ _ h => h) (Or.inl ⟨by rfl, ?_⟩) hHeld ?_ ?_
  rotate_left
  ·rintro w' ⟨s0, s1, s2⟩
   go_simp
   with_reducible rfl
  rotate_left
  ·simp only [Act.put, sit, scz, scs, i64_w, i32_w]
   rfl
  refine one_ (i := 0) (N := some 8) #[true, true, false, false, false, false, false, false, false] rfl rfl (one_of HT_.out (by kernel_rfl)) (by decide) (fun K hK => ?_)
  refine goes_ Try.func87 (by kernel_rfl) rfl #[] (by rfl) rfl rfl (by (try simp only [mta, mco, mni]); first | done | rfl | (simp only [lnd, lnt]; rfl)) ?_
  with_reducible refine (impl_plainCode.calls  t135 t136 _ A4.out).mono ?_
  rintro e w21 ⟨rfl, hb⟩
  refine ⟨_, rfl, ?_⟩
  have n0_ := am (kbb (g := gb134) (o := .cells #[.int .i64 a2_0, .int .i64 a2_1, .string a2_2] 60 (0, 0)) (by (with_reducible repeat (first | apply kdn | apply kdr | apply kal)); exact BK134.out) hb)
  have n1_ := am (below_step (by repeat (first | (with_reducible first | exact HB.out | apply bal | apply pdn | apply bd1 | refine bst ?_ GE134.out) | exact HB.out)) hb)
  clear BK134
  clear HB
  have BK134 := n0_
  have HB := n1_
  clear n0_ n1_
  refine hK.out _ _ ⟨(kce BK134.out 0).trans rfl, (kce BK134.out 1).trans rfl, (kce BK134.out 2).trans rfl⟩ (fun hHeld => ?_)
  clear hK K
  refine norm_ (a' := ?_) ?_ ?_
  rotate_left
  ·show Act.put _ (some 8) _ = _
   simp only [Act.put, sit, scz, scs, i64_w, i32_w]
   rfl
  refine one_ (i := 2) (N := some 10) #[true, true, true, false, false, false, false, false, false] rfl rfl (one_of HT_.out (by kernel_rfl)) (by decide) (fun K hK => ?_)
  refine goes_ Try.func86 (by kernel_rfl) rfl #[.agg #[.int .i64 t135, .int .i64 t136], .agg #[.int .i64 a2_0, .int .i64 a2_1, .string a2_2]] (by rfl) rfl rfl (by (try simp only [mta, mco, mni]); first | done | rfl | (simp only [lnd, lnt]; rfl)) ?_
  with_reducible refine (impl_OpOk.calls k t135 t136 a2_0 a2_1 a2_2 false _ A5.out).mono ?_
  rintro e w22 ⟨rfl, hb⟩
  refine ⟨_, rfl, ?_⟩
  have n0_ := am (kbb (g := gb134) (o := .cells #[.int .i64 a2_0, .int .i64 a2_1, .string a2_2] 60 (0, 0)) (by (with_reducible repeat (first | apply kdn | apply kdr | apply kal)); exact BK134.out) hb)
  have n1_ := am (below_step (by repeat (first | (with_reducible first | exact HB.out | apply bal | apply pdn | apply bd1 | refine bst ?_ GE134.out) | exact HB.out)) hb)
  clear BK134
  clear HB
  have BK134 := n0_
  have HB := n1_
  clear n0_ n1_
  refine hK.out _ _ ⟨(kce BK134.out 0).trans rfl, (kce BK134.out 1).trans rfl, (kce BK134.out 2).trans rfl⟩ (fun hHeld => ?_)
  clear hK K
  refine norm_ (a' := ?_) ?_ ?_
  rotate_left
  ·show Act.put _ (some 10) _ = _
   simp only [Act.put, sit, scz, scs, i64_w, i32_w]
   rfl
  refine pure_ (i := 3) (N := some 11) (v := ?_) (a' := ?_) #[true, true, true, true, false, false, false, false, false] rfl rfl (any_of HT_.out (by kernel_rfl)) (fun _ _ _ h => h) (Or.inl ⟨by rfl, ?_⟩) ?_ ?_
  rotate_left
  ·intro w'
   go_simp
   with_reducible rfl
  rotate_left
  ·simp only [Act.put, sit, scz, scs, i64_w, i32_w]
   rfl
  refine pure_ (i := 4) (N := some 12) (v := ?_) (a' := ?_) #[true, true, true, true, true, false, false, false, false] rfl rfl (any_of HT_.out (by kernel_rfl)) (fun _ _ _ h => h) (Or.inl ⟨by rfl, ?_⟩) ?_ ?_
  rotate_left
  ·intro w'
   go_simp
   with_reducible rfl
  rotate_left
  ·simp only [Act.put, sit, scz, scs, i64_w, i32_w]
   rfl
  refine pure_ (i := 5) (N := some 13) (v := undef) (a' := ?_) #[true, true, true, true, true, true, false, false, false] rfl rfl (any_of HT_.out (by kernel_rfl)) (fun _ _ _ h => h) (Or.inr ⟨by rfl, rfl⟩) ?_ ?_
  rotate_left
  ·simp only [Act.put, sit, scz, scs, i64_w, i32_w]
   rfl
  refine pure_ (i := 6) (N := some 14) (v := undef) (a' := ?_) #[true, true, true, true, true, true, true, false, false] rfl rfl (any_of HT_.out (by kernel_rfl)) (fun _ _ _ h => h) (Or.inr ⟨by rfl, rfl⟩) ?_ ?_
  rotate_left
  ·simp only [Act.put, sit, scz, scs, i64_w, i32_w]
   rfl
  refine pure_ (i := 7) (N := some 15) (v := undef) (a' := ?_) #[true, true, true, true, true, true, true, true, false] rfl rfl (any_of HT_.out (by kernel_rfl)) (fun _ _ _ h => h) (Or.inr ⟨by rfl, rfl⟩) ?_ ?_
  rotate_left
  ·simp only [Act.put, sit, scz, scs, i64_w, i32_w]
   rfl
  refine pure_ (i := 8) (N := some 16) (v := ?_) (a' := ?_) #[true, true, true, true, true, true, true, true, true] rfl rfl (any_of HT_.out (by kernel_rfl)) (fun _ _ _ h => h) (Or.inl ⟨by rfl, ?_⟩) ?_ ?_
  rotate_left
  ·intro w'
   go_simp
   with_reducible rfl
  rotate_left
  ·simp only [Act.put, sit, scz, scs, i64_w, i32_w]
   rfl
  refine done_ (done_of HT_.out (by kernel_rfl)) ?_
  try go_wp2
  go_ret2
  exact ⟨by first | rfl | (simp [errW_none, errW_some] <;> rfl) | (simp [*, errW_none, errW_some] <;> rfl), by repeat (first | (with_reducible first | exact HB.out | apply bal | apply pdn | apply bd1 | refine bst ?_ GE134.out) | exact HB.out)⟩

/-! ### laws_FnExactApplyOp: function 11 -/
def laws_FnExactApplyOp.f (k : Nat) (a0 : ByteArray) (a1 : Bool) (a2_0 : Int) (a2_1 : Int) (a2_2 : ByteArray) : Option (Bool) := if (a0.size : Int) > 1048576 then (some true) else ((laws_szOp.f a2_0 a2_1 a2_2 1048576).bind fun t141 => (if t141 < 0 then (some true) else ((laws_toOp.f a2_0 a2_1 a2_2).bind fun bt142 => ((spec_ApplyOp.f k a0 a1 bt142.1 bt142.2.1 bt142.2.2).bind fun bt145 => ((laws_toOp.f a2_0 a2_1 a2_2).bind fun bt147 => ((impl_ApplyOp.f k a0 a1 bt147.1 bt147.2.1 bt147.2.2).bind fun bt150 => (if bt150.1.toList = bt145.1.toList then (if (bt150.2 != bt145.2) = true then (some false) else (some true)) else (some false))))))))
theorem laws_FnExactApplyOp.mono : ∀ a0 a1 a2 a3 a4 k, LeO (laws_FnExactApplyOp.f k a0 a1 a2 a3 a4) (laws_FnExactApplyOp.f (k + 1) a0 a1 a2 a3 a4) := by
 intro a0 a1 a2 a3 a4 k
 unfold laws_FnExactApplyOp.f
 repeat' first
   | (with_reducible exact impl_ApplyOp.mono _ _ _ _ _ _)
   | (with_reducible exact spec_ApplyOp.mono _ _ _ _ _ _)
   | (with_reducible exact LeO.refl _)
   | (with_reducible exact LeO.none _)
   | (with_reducible refine LeO.ite ?_ ?_)
   | (with_reducible refine LeO.bind ?_ (fun _ => ?_))
   | exact impl_ApplyOp.mono _ _ _ _ _ _
   | exact spec_ApplyOp.mono _ _ _ _ _ _
   | exact LeO.none _
   | refine LeO.ite ?_ ?_
   | refine LeO.bind ?_ (fun _ => ?_)
set_option maxHeartbeats 8000000 in
set_option maxRecDepth 100000 in
theorem laws_FnExactApplyOp.calls (k : Nat) (a0 : ByteArray) (a1 : Bool) (a2_0 : Int) (a2_1 : Int) (a2_2 : ByteArray) (r : Bool) (w : World) (hT0 : r = true) (h : laws_FnExactApplyOp.f k a0 a1 a2_0 a2_1 a2_2 = some r) :
  Calls Try.prog 11 #[.string a0, .bool a1, .agg #[.int .i64 a2_0, .int .i64 a2_1, .string a2_2]] w fun e w' => e = .returned (.bool r) ∧ Below w.heap.size w w' := by
 have hT := am hT0
 clear hT0
 have hu57 := Try.underlying57
 have HB := am (Below.refl w.heap.size w)
 have H : (if (a0.size : Int) > 1048576 then (some true) else ((laws_szOp.f a2_0 a2_1 a2_2 1048576).bind fun t141 => (if t141 < 0 then (some true) else ((laws_toOp.f a2_0 a2_1 a2_2).bind fun bt142 => ((spec_ApplyOp.f k a0 a1 bt142.1 bt142.2.1 bt142.2.2).bind fun bt145 => ((laws_toOp.f a2_0 a2_1 a2_2).bind fun bt147 => ((impl_ApplyOp.f k a0 a1 bt147.1 bt147.2.1 bt147.2.2).bind fun bt150 => (if bt150.1.toList = bt145.1.toList then (if (bt150.2 != bt145.2) = true then (some false) else (some true)) else (some false))))))))) = some r := h
 clear h
 by_cases c4 : (a0.size : Int) > 1048576
 ·rw [if_pos c4] at H
  have c4b0 : decide (1048576 < (a0.size : Int)) = true := decide_eq_true c4
  have c4b1 : decide (1048576 < a0.size) = true := decide_eq_true (by omega)
  clear c4
  obtain rfl := Option.some.inj H
  go_enter Try.func11, Try.ntmps11
  go_wp2_with (first | ((with_reducible refine gate_dst (N := 5) rfl ?_); refine box_event ?hg (N := 5) ?hd (cs := #[.int .i64 a2_0, .int .i64 a2_1, .string a2_2]) (t := 57) ?hr ?_; (case hd => rfl); (case hg => rfl); (case hr => first | (go_simp; done) | (go_simp; rfl)); intro gb140 hg w5 hbox hb; have n0_ := am (below_step (by repeat (first | (with_reducible first | exact HB.out | apply bal | apply pdn | apply bd1) | exact HB.out)) hb); have n1_ := am (hbox); have n2_ := am ((by rw [hg]; exact (below_size (by repeat (first | (with_reducible first | exact HB.out | apply bal | apply pdn | apply bd1) | exact HB.out))) : w.heap.size ≤ gb140)); have n3_ := am ((by rw [hg]; exact (below_size (by repeat (first | (with_reducible first | exact HB.out | apply bal | apply pdn | apply bd1) | exact HB.out))) : w.heap.size ≤ gb140)); clear HB; have HB := n0_; have BK140 := n1_; have GW140 := n2_; have GE140 := n3_; clear n0_ n1_ n2_ n3_; clear hb hbox hg))
  go_ret
  exact ⟨by first | rfl | (simp [errW_none, errW_some] <;> rfl) | (simp [*, errW_none, errW_some] <;> rfl), by repeat (first | (with_reducible first | exact HB.out | apply bal | apply pdn | apply bd1 | refine bst ?_ GE140.out) | exact HB.out)⟩
 ·rw [if_neg c4] at H
  have c4b0 : decide (1048576 < (a0.size : Int)) = false := decide_eq_false c4
  have c4b1 : decide (1048576 < a0.size) = false := decide_eq_false (by omega)
  clear c4
  replace H := Option.bind_eq_some_iff.mp H
  obtain ⟨t141, A60, H⟩ := H
  replace H : (if t141 < 0 then (some true) else ((laws_toOp.f a2_0 a2_1 a2_2).bind fun bt142 => ((spec_ApplyOp.f k a0 a1 bt142.1 bt142.2.1 bt142.2.2).bind fun bt145 => ((laws_toOp.f a2_0 a2_1 a2_2).bind fun bt147 => ((impl_ApplyOp.f k a0 a1 bt147.1 bt147.2.1 bt147.2.2).bind fun bt150 => (if bt150.1.toList = bt145.1.toList then (if (bt150.2 != bt145.2) = true then (some false) else (some true)) else (some false))))))) = some r := H
  have A6 := am A60
  clear A60
  by_cases c7 : t141 < 0
  ·rw [if_pos c7] at H
   have c7b0 : decide (t141 < 0) = true := decide_eq_true c7
   clear c7
   obtain rfl := Option.some.inj H
   go_enter Try.func11, Try.ntmps11
   go_wp2_with (first | ((with_reducible refine gate_dst (N := 5) rfl ?_); refine box_event ?hg (N := 5) ?hd (cs := #[.int .i64 a2_0, .int .i64 a2_1, .string a2_2]) (t := 57) ?hr ?_; (case hd => rfl); (case hg => rfl); (case hr => first | (go_simp; done) | (go_simp; rfl)); intro gb140 hg w8 hbox hb; have n0_ := am (below_step (by repeat (first | (with_reducible first | exact HB.out | apply bal | apply pdn | apply bd1) | exact HB.out)) hb); have n1_ := am (hbox); have n2_ := am ((by rw [hg]; exact (below_size (by repeat (first | (with_reducible first | exact HB.out | apply bal | apply pdn | apply bd1) | exact HB.out))) : w.heap.size ≤ gb140)); have n3_ := am ((by rw [hg]; exact (below_size (by repeat (first | (with_reducible first | exact HB.out | apply bal | apply pdn | apply bd1) | exact HB.out))) : w.heap.size ≤ gb140)); clear HB; have HB := n0_; have BK140 := n1_; have GW140 := n2_; have GE140 := n3_; clear n0_ n1_ n2_ n3_; clear hb hbox hg; have hcz9_0 : w8.cell? ⟨gb140, 0, none⟩ = some (.int .i64 a2_0) := (kce BK140.out 0).trans rfl; have hcz9_1 : w8.cell? ⟨gb140, 1, none⟩ = some (.int .i64 a2_1) := (kce BK140.out 1).trans rfl; have hcz9_2 : w8.cell? ⟨gb140, 2, none⟩ = some (.string a2_2) := (kce BK140.out 2).trans rfl; have hfz9_0 := kfr BK140.out 0; have hfz9_1 := kfr BK140.out 1; have hfz9_2 := kfr BK140.out 2) | ((with_reducible refine gate_callee (f := 36) rfl ?_); refine goesL_ (some 17) rfl rfl Try.func36 (by kernel_rfl) rfl #[.agg #[.int .i64 a2_0, .int .i64 a2_1, .string a2_2], .int .i64 1048576] rfl (by (try simp only [mta, mco, mni]); first | done | rfl | (simp only [lnd, lnt]; rfl)) ?_; (with_reducible refine (laws_szOp.calls a2_0 a2_1 a2_2 1048576 t141 _ A6.out).mono ?_); rintro e w10 ⟨rfl, hb⟩; refine ⟨_, rfl, ?_⟩; have n0_ := am (kbb (g := gb140) (o := .cells #[.int .i64 a2_0, .int .i64 a2_1, .string a2_2] 57 (0, 0)) (by (with_reducible repeat (first | apply kdn | apply kdr | apply kal)); exact BK140.out) hb); have n1_ := am (below_step (by repeat (first | (with_reducible first | exact HB.out | apply bal | apply pdn | apply bd1 | refine bst ?_ GE140.out) | exact HB.out)) hb); clear BK140; clear HB; have BK140 := n0_; have HB := n1_; clear n0_ n1_; (try clear hb); (try clear hb2); (try clear hk); (try clear hi)))
   go_ret
   exact ⟨by first | rfl | (simp [errW_none, errW_some] <;> rfl) | (simp [*, errW_none, errW_some] <;> rfl), by repeat (first | (with_reducible first | exact HB.out | apply bal | apply pdn | apply bd1 | refine bst ?_ GE140.out) | exact HB.out)⟩
  ·rw [if_neg c7] at H
   have c7b0 : decide (t141 < 0) = false := decide_eq_false c7
   clear c7
   replace H := Option.bind_eq_some_iff.mp H
   obtain ⟨⟨t142, t143, t144⟩, A110, H⟩ := H
   replace H : ((spec_ApplyOp.f k a0 a1 t142 t143 t144).bind fun bt145 => ((laws_toOp.f a2_0 a2_1 a2_2).bind fun bt147 => ((impl_ApplyOp.f k a0 a1 bt147.1 bt147.2.1 bt147.2.2).bind fun bt150 => (if bt150.1.toList = bt145.1.toList then (if (bt150.2 != bt145.2) = true then (some false) else (some true)) else (some false))))) = some r := H
   have A11 := am A110
   clear A110
   replace H := Option.bind_eq_some_iff.mp H
   obtain ⟨⟨t145, t146⟩, A120, H⟩ := H
   replace H : ((laws_toOp.f a2_0 a2_1 a2_2).bind fun bt147 => ((impl_ApplyOp.f k a0 a1 bt147.1 bt147.2.1 bt147.2.2).bind fun bt150 => (if bt150.1.toList = t145.toList then (if (bt150.2 != t146) = true then (some false) else (some true)) else (some false)))) = some r := H
   have A12 := am A120
   clear A120
   replace H := Option.bind_eq_some_iff.mp H
   obtain ⟨⟨t147, t148, t149⟩, A130, H⟩ := H
   replace H : ((impl_ApplyOp.f k a0 a1 t147 t148 t149).bind fun bt150 => (if bt150.1.toList = t145.toList then (if (bt150.2 != t146) = true then (some false) else (some true)) else (some false))) = some r := H
   have A13 := am A130
   clear A130
   replace H := Option.bind_eq_some_iff.mp H
   obtain ⟨⟨t150, t151⟩, A140, H⟩ := H
   replace H : (if t150.toList = t145.toList then (if (t151 != t146) = true then (some false) else (some true)) else (some false)) = some r := H
   have A14 := am A140
   clear A140
   by_cases c15 : t150.toList = t145.toList
   ·rw [if_pos c15] at H
    have c15b0 : (t150.toList == t145.toList) = true := beq_iff_eq.mpr c15
    have c15b1 : (t150.toList != t145.toList) = false := bne_eq_false_iff_eq.mpr c15
    clear c15
    by_cases c16 : (t151 != t146) = true
    ·rw [if_pos c16] at H
     have c16b0 : (t151 != t146) = true := c16
     (try (have c16b1 : decide (t151 = t146) = false := by simpa using c16))
     (try (have c16b2 : (t151 == t146) = false := by simpa using c16))
     (try (have c16b3 : ¬ (t151 = t146) := by simpa using c16))
     clear c16
     exact absurd ((Option.some.inj H).trans hT.out) (by decide)
    ·rw [if_neg c16] at H
     have c16b0 : (t151 != t146) = false := by simpa using c16
     (try (have c16b1 : decide (t151 = t146) = true := by simpa using c16))
     (try (have c16b2 : (t151 == t146) = true := by simpa using c16))
     clear c16
     obtain rfl := Option.some.inj H
     go_enter Try.func11, Try.ntmps11
     go_wp2_with (first | ((with_reducible refine gate_dst (N := 5) rfl ?_); refine box_event ?hg (N := 5) ?hd (cs := #[.int .i64 a2_0, .int .i64 a2_1, .string a2_2]) (t := 57) ?hr ?_; (case hd => rfl); (case hg => rfl); (case hr => first | (go_simp; done) | (go_simp; rfl)); intro gb140 hg w17 hbox hb; have n0_ := am (below_step (by repeat (first | (with_reducible first | exact HB.out | apply bal | apply pdn | apply bd1) | exact HB.out)) hb); have n1_ := am (hbox); have n2_ := am ((by rw [hg]; exact (below_size (by repeat (first | (with_reducible first | exact HB.out | apply bal | apply pdn | apply bd1) | exact HB.out))) : w.heap.size ≤ gb140)); have n3_ := am ((by rw [hg]; exact (below_size (by repeat (first | (with_reducible first | exact HB.out | apply bal | apply pdn | apply bd1) | exact HB.out))) : w.heap.size ≤ gb140)); clear HB; have HB := n0_; have BK140 := n1_; have GW140 := n2_; have GE140 := n3_; clear n0_ n1_ n2_ n3_; clear hb hbox hg; have hcz18_0 : w17.cell? ⟨gb140, 0, none⟩ = some (.int .i64 a2_0) := (kce BK140.out 0).trans rfl; have hcz18_1 : w17.cell? ⟨gb140, 1, none⟩ = some (.int .i64 a2_1) := (kce BK140.out 1).trans rfl; have hcz18_2 : w17.cell? ⟨gb140, 2, none⟩ = some (.string a2_2) := (kce BK140.out 2).trans rfl; have hfz18_0 := kfr BK140.out 0; have hfz18_1 := kfr BK140.out 1; have hfz18_2 := kfr BK140.out 2) | ((with_reducible refine gate_callee (f := 36) rfl ?_); refine goesL_ (some 17) rfl rfl Try.func36 (by kernel_rfl) rfl #[.agg #[.int .i64 a2_0, .int .i64 a2_1, .string a2_2], .int .i64 1048576] rfl (by (try simp only [mta, mco, mni]); first | done | rfl | (simp only [lnd, lnt]; rfl)) ?_; (with_reducible refine (laws_szOp.calls a2_0 a2_1 a2_2 1048576 t141 _ A6.out).mono ?_); rintro e w19 ⟨rfl, hb⟩; refine ⟨_, rfl, ?_⟩; have n0_ := am (kbb (g := gb140) (o := .cells #[.int .i64 a2_0, .int .i64 a2_1, .string a2_2] 57 (0, 0)) (by (with_reducible repeat (first | apply kdn | apply kdr | apply kal)); exact BK140.out) hb); have n1_ := am (below_step (by repeat (first | (with_reducible first | exact HB.out | apply bal | apply pdn | apply bd1 | refine bst ?_ GE140.out) | exact HB.out)) hb); clear BK140; clear HB; have BK140 := n0_; have HB := n1_; clear n0_ n1_; (try clear hb); (try clear hb2); (try clear hk); (try clear hi); have hcz20_0 : w19.cell? ⟨gb140, 0, none⟩ = some (.int .i64 a2_0) := (kce BK140.out 0).trans rfl; have hcz20_1 : w19.cell? ⟨gb140, 1, none⟩ = some (.int .i64 a2_1) := (kce BK140.out 1).trans rfl; have hcz20_2 : w19.cell? ⟨gb140, 2, none⟩ = some (.string a2_2) := (kce BK140.out 2).trans rfl; have hfz20_0 := kfr BK140.out 0; have hfz20_1 := kfr BK140.out 1; have hfz20_2 := kfr BK140.out 2) | ((with_reducible refine gate_callee (f := 38) rfl ?_); refine goesL_ (some 24) rfl rfl Try.func38 (by kernel_rfl) rfl #[.agg #[.int .i64 a2_0, .int .i64 a2_1, .string a2_2]] rfl (by (try simp only [mta, mco, mni]); first | done | rfl | (simp only [lnd, lnt]; rfl)) ?_; (with_reducible refine (laws_toOp.calls a2_0 a2_1 a2_2 t142 t143 t144 _ A11.out).mono ?_); rintro e w21 ⟨rfl, hb⟩; refine ⟨_, rfl, ?_⟩; have n0_ := am (kbb (g := gb140) (o := .cells #[.int .i64 a2_0, .int .i64 a2_1, .string a2_2] 57 (0, 0)) (by (with_reducible repeat (first | apply kdn | apply kdr | apply kal)); exact BK140.out) hb); have n1_ := am (below_step (by repeat (first | (with_reducible first | exact HB.out | apply bal | apply pdn | apply bd1 | refine bst ?_ GE140.out) | exact HB.out)) hb); clear BK140; clear HB; have BK140 := n0_; have HB := n1_; clear n0_ n1_; (try clear hb); (try clear hb2); (try clear hk); (try clear hi)) | ((with_reducible refine gate_callee (f := 43) rfl ?_); refine goesL_ (some 25) rfl rfl Try.func43 (by kernel_rfl) rfl #[.string a0, .bool a1, .agg #[.int .i64 t142, .int .i64 t143, .string t144]] rfl (by (try simp only [mta, mco, mni]); first | done | rfl | (simp only [lnd, lnt]; rfl)) ?_; (with_reducible refine (spec_ApplyOp.calls k a0 a1 t142 t143 t144 t145 t146 _ A12.out).mono ?_); rintro e w22 ⟨rfl, hb⟩; refine ⟨_, rfl, ?_⟩; have n0_ := am (kbb (g := gb140) (o := .cells #[.int .i64 a2_0, .int .i64 a2_1, .string a2_2] 57 (0, 0)) (by (with_reducible repeat (first | apply kdn | apply kdr | apply kal)); exact BK140.out) hb); have n1_ := am (below_step (by repeat (first | (with_reducible first | exact HB.out | apply bal | apply pdn | apply bd1 | refine bst ?_ GE140.out) | exact HB.out)) hb); clear BK140; clear HB; have BK140 := n0_; have HB := n1_; clear n0_ n1_; (try clear hb); (try clear hb2); (try clear hk); (try clear hi); have hcz23_0 : w22.cell? ⟨gb140, 0, none⟩ = some (.int .i64 a2_0) := (kce BK140.out 0).trans rfl; have hcz23_1 : w22.cell? ⟨gb140, 1, none⟩ = some (.int .i64 a2_1) := (kce BK140.out 1).trans rfl; have hcz23_2 : w22.cell? ⟨gb140, 2, none⟩ = some (.string a2_2) := (kce BK140.out 2).trans rfl; have hfz23_0 := kfr BK140.out 0; have hfz23_1 := kfr BK140.out 1; have hfz23_2 := kfr BK140.out 2) | ((with_reducible refine gate_callee (f := 38) rfl ?_); refine goesL_ (some 32) rfl rfl Try.func38 (by kernel_rfl) rfl #[.agg #[.int .i64 a2_0, .int .i64 a2_1, .string a2_2]] rfl (by (try simp only [mta, mco, mni]); first | done | rfl | (simp only [lnd, lnt]; rfl)) ?_; (with_reducible refine (laws_toOp.calls a2_0 a2_1 a2_2 t147 t148 t149 _ A13.out).mono ?_); rintro e w24 ⟨rfl, hb⟩; refine ⟨_, rfl, ?_⟩; have n0_ := am (kbb (g := gb140) (o := .cells #[.int .i64 a2_0, .int .i64 a2_1, .string a2_2] 57 (0, 0)) (by (with_reducible repeat (first | apply kdn | apply kdr | apply kal)); exact BK140.out) hb); have n1_ := am (below_step (by repeat (first | (with_reducible first | exact HB.out | apply bal | apply pdn | apply bd1 | refine bst ?_ GE140.out) | exact HB.out)) hb); clear BK140; clear HB; have BK140 := n0_; have HB := n1_; clear n0_ n1_; (try clear hb); (try clear hb2); (try clear hk); (try clear hi)) | ((with_reducible refine gate_callee (f := 44) rfl ?_); refine goesL_ (some 33) rfl rfl Try.func44 (by kernel_rfl) rfl #[.string a0, .bool a1, .agg #[.int .i64 t147, .int .i64 t148, .string t149]] rfl (by (try simp only [mta, mco, mni]); first | done | rfl | (simp only [lnd, lnt]; rfl)) ?_; (with_reducible refine (impl_ApplyOp.calls k a0 a1 t147 t148 t149 t150 t151 _ A14.out).mono ?_); rintro e w25 ⟨rfl, hb⟩; refine ⟨_, rfl, ?_⟩; have n0_ := am (kbb (g := gb140) (o := .cells #[.int .i64 a2_0, .int .i64 a2_1, .string a2_2] 57 (0, 0)) (by (with_reducible repeat (first | apply kdn | apply kdr | apply kal)); exact BK140.out) hb); have n1_ := am (below_step (by repeat (first | (with_reducible first | exact HB.out | apply bal | apply pdn | apply bd1 | refine bst ?_ GE140.out) | exact HB.out)) hb); clear BK140; clear HB; have BK140 := n0_; have HB := n1_; clear n0_ n1_; (try clear hb); (try clear hb2); (try clear hk); (try clear hi)))
     go_ret
     exact ⟨by first | rfl | (simp [errW_none, errW_some] <;> rfl) | (simp [*, errW_none, errW_some] <;> rfl), by repeat (first | (with_reducible first | exact HB.out | apply bal | apply pdn | apply bd1 | refine bst ?_ GE140.out) | exact HB.out)⟩
   ·rw [if_neg c15] at H
    have c15b0 : (t150.toList == t145.toList) = false := beq_eq_false_iff_ne.mpr c15
    have c15b1 : (t150.toList != t145.toList) = true := bne_iff_ne.mpr c15
    exact absurd ((Option.some.inj H).trans hT.out) (by decide)

end Go.Proofs.Ythphhklbliambaa.MFnExactApplyOp
