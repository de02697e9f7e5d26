-- Written by a program of this session (wip/tools/myprint.py) over the kit's print: it is not the kit's print.
import Derived.Test.YthphhklbliambaaExtra
import Derived.Test.YthphhklbliambaaMFnOpsx0
import Derived.Test.YthphhklbliambaaMFnOpsx5
namespace Go.Proofs.Ythphhklbliambaa.MFnOps
open Go.RowKit Go.Proofs.YthphhklbliambaaW.PrintWords Go.Proofs.YthphhklbliambaaW.PrintLast Go.Proofs.YthphhklbliambaaW.PrintMore
open List renaming setIfInBounds_toArray → sit, set_cons_zero → scz, set_cons_succ → scs, map_toArray → mta, map_cons → mco, map_nil → mni, length_drop → lnd, length_take → lnt
attribute [local go_sem] max2_int min2_int max_two min_two max_three min_three max_four min_four   -- for this text's walks alone
set_option linter.unusedVariables false
set_option linter.unusedSimpArgs false

/-! ### spec_ApplyOp: function 43 -/
mutual
def spec_ApplyOp.j0 : Nat → ByteArray → Bool → Bool → Int → Int → ByteArray → Option (ByteArray × Bool)
 | 0, _, _, _, _, _, _ => none
 | k + 1, x0, x1, x16, x160000, x160001, x160002 => if x16 = true then (some ((⟨#[]⟩ : ByteArray), false)) else (if x1 = true then (spec_ApplyOp.j1 k x0 x1 x160000 x160001 x160002) else (spec_ApplyOp.j1 k (⟨#[]⟩ : ByteArray) x1 x160000 x160001 x160002))
def spec_ApplyOp.j1 : Nat → ByteArray → Bool → Int → Int → ByteArray → Option (ByteArray × Bool)
 | 0, _, _, _, _, _ => none
 | k + 1, x0, x1, x160000, x160001, x160002 => if x160000 = 1 then (some (x0, x1)) else (if x160000 = 2 then (some (x160002, true)) else (if x160000 = 3 then ((spec_l16Lay.f x0 x160001 x160002).bind fun t163 => (some (t163, true))) else (if x160000 = 4 then ((spec_l16Lay.f x0 (x0.size : Int) x160002).bind fun t164 => (some (t164, true))) else (if x160000 = 5 then ((spec_l00Min.f x160001 (x0.size : Int)).bind fun t165 => (if 0 ≤ t165 then (if t165 ≤ (x0.size : Int) then (some (x0.extract 0 (t165 : Int).toNat, x1)) else (none)) else (none))) else (some ((⟨#[]⟩ : ByteArray), false))))))
end
def spec_ApplyOp.f (k : Nat) (a0 : ByteArray) (a1 : Bool) (a2_0 : Int) (a2_1 : Int) (a2_2 : ByteArray) : Option (ByteArray × Bool) := (spec_l16Plain.f).bind fun bt160 => ((spec_OpOk.f k bt160.1 bt160.2 a2_0 a2_1 a2_2).bind fun t162 => (if t162 = true then (spec_ApplyOp.j0 k a0 a1 (decide ((a0.size : Int) > 64)) a2_0 a2_1 a2_2) else (spec_ApplyOp.j0 k a0 a1 true a2_0 a2_1 a2_2)))
theorem spec_ApplyOp.mono_l : ∀ k, (∀ y0 y1 y2 y3 y4 y5, LeO (spec_ApplyOp.j0 k y0 y1 y2 y3 y4 y5) (spec_ApplyOp.j0 (k + 1) y0 y1 y2 y3 y4 y5)) ∧ (∀ y0 y1 y2 y3 y4, LeO (spec_ApplyOp.j1 k y0 y1 y2 y3 y4) (spec_ApplyOp.j1 (k + 1) y0 y1 y2 y3 y4))
 | 0 => ⟨fun _ _ _ _ _ _ r h => by simp [spec_ApplyOp.j0] at h, fun _ _ _ _ _ r h => by simp [spec_ApplyOp.j1] at h⟩
 | k + 1 => by
  obtain ⟨ih0, ih1⟩ := spec_ApplyOp.mono_l k
  refine ⟨?_, ?_⟩
  ·intro y0 y1 y2 y3 y4 y5
   unfold spec_ApplyOp.j0
   repeat' first
   | (with_reducible exact ih0 _ _ _ _ _ _)
   | (with_reducible exact ih1 _ _ _ _ _)
   | (with_reducible exact spec_OpOk.mono _ _ _ _ _ _)
   | (with_reducible exact LeO.refl _)
   | (with_reducible exact LeO.none _)
   | (with_reducible refine LeO.ite ?_ ?_)
   | (with_reducible refine LeO.bind ?_ (fun _ => ?_))
   | exact ih0 _ _ _ _ _ _
   | exact ih1 _ _ _ _ _
   | exact spec_OpOk.mono _ _ _ _ _ _
   | exact LeO.none _
   | refine LeO.ite ?_ ?_
   | refine LeO.bind ?_ (fun _ => ?_)
  ·intro y0 y1 y2 y3 y4
   unfold spec_ApplyOp.j1
   repeat' first
   | (with_reducible exact ih0 _ _ _ _ _ _)
   | (with_reducible exact ih1 _ _ _ _ _)
   | (with_reducible exact spec_OpOk.mono _ _ _ _ _ _)
   | (with_reducible exact LeO.refl _)
   | (with_reducible exact LeO.none _)
   | (with_reducible refine LeO.ite ?_ ?_)
   | (with_reducible refine LeO.bind ?_ (fun _ => ?_))
   | exact ih0 _ _ _ _ _ _
   | exact ih1 _ _ _ _ _
   | exact spec_OpOk.mono _ _ _ _ _ _
   | exact LeO.none _
   | refine LeO.ite ?_ ?_
   | refine LeO.bind ?_ (fun _ => ?_)
theorem spec_ApplyOp.mono : ∀ a0 a1 a2 a3 a4 k, LeO (spec_ApplyOp.f k a0 a1 a2 a3 a4) (spec_ApplyOp.f (k + 1) a0 a1 a2 a3 a4) := by
 intro a0 a1 a2 a3 a4 k
 obtain ⟨ih0, ih1⟩ := spec_ApplyOp.mono_l k
 unfold spec_ApplyOp.f
 repeat' first
   | (with_reducible exact ih0 _ _ _ _ _ _)
   | (with_reducible exact ih1 _ _ _ _ _)
   | (with_reducible exact spec_OpOk.mono _ _ _ _ _ _)
   | (with_reducible exact LeO.refl _)
   | (with_reducible exact LeO.none _)
   | (with_reducible refine LeO.ite ?_ ?_)
   | (with_reducible refine LeO.bind ?_ (fun _ => ?_))
   | exact ih0 _ _ _ _ _ _
   | exact ih1 _ _ _ _ _
   | exact spec_OpOk.mono _ _ _ _ _ _
   | exact LeO.none _
   | refine LeO.ite ?_ ?_
   | refine LeO.bind ?_ (fun _ => ?_)
def spec_ApplyOp.T1 : Bool × List (List Nat × List Nat) := (true, [([], []), ([], []), ([0, 1, 0], [0, 1]), ([2], [2]), ([3, 2], [3]), ([4], [4]), ([5, 4], [4, 5]), ([6, 4], [4, 6]), ([4, 7], [4, 7])])
def spec_ApplyOp.B1 : List Nat := [0, 0, 3, 7, 15, 31, 63, 127, 255]
theorem spec_ApplyOp.tab1 : rtab .any (opsOf Try.f43 1) = spec_ApplyOp.T1 := by kernel_rfl
theorem spec_ApplyOp.bits1 : waitsOk spec_ApplyOp.T1.2 spec_ApplyOp.B1 = true := by kernel_rfl
set_option maxHeartbeats 8000000 in
set_option maxRecDepth 100000 in
theorem spec_ApplyOp.calls (k : Nat) (a0 : ByteArray) (a1 : Bool) (a2_0 : Int) (a2_1 : Int) (a2_2 : ByteArray) (r1 : ByteArray) (r2 : Bool) (w : World) (h : spec_ApplyOp.f k a0 a1 a2_0 a2_1 a2_2 = some (r1, r2)) :
  Calls Try.prog 43 #[.string a0, .bool a1, .agg #[.int .i64 a2_0, .int .i64 a2_1, .string a2_2]] w fun e w' => e = .returned (.tuple #[.string r1, .bool r2]) ∧ Below w.heap.size w w' := by
 have hu60 := Try.underlying60
 have HB := am (Below.refl w.heap.size w)
 have H : ((spec_l16Plain.f).bind fun bt160 => ((spec_OpOk.f k bt160.1 bt160.2 a2_0 a2_1 a2_2).bind fun t162 => (if t162 = true then (spec_ApplyOp.j0 k a0 a1 (decide ((a0.size : Int) > 64)) a2_0 a2_1 a2_2) else (spec_ApplyOp.j0 k a0 a1 true a2_0 a2_1 a2_2)))) = some (r1, r2) := h
 clear h
 have HC4 := am H
 clear H
 go_enter Try.func43, Try.ntmps43
 go_upto_region 1 with (first | ((with_reducible refine gate_dst (N := 5) rfl ?_); (try (refine gate_guard (by rfl) ?_; dsimp only)); refine box_event ?hg (N := 5) ?hd (cs := #[.int .i64 a2_0, .int .i64 a2_1, .string a2_2]) (t := 60) ?hr ?_; (case hd => rfl); (case hg => rfl); (case hr => first | (go_simp; done) | (go_simp; rfl)); intro gb159 hg w5 hbox hb; have n0_ := am (below_step (by repeat (first | (with_reducible first | exact HB.out | apply bal | apply pdn | apply bd1) | exact HB.out)) hb); have n1_ := am (hbox); have n2_ := am ((by rw [hg]; exact (below_size (by repeat (first | (with_reducible first | exact HB.out | apply bal | apply pdn | apply bd1) | exact HB.out))) : w.heap.size ≤ gb159)); have n3_ := am ((by rw [hg]; exact (below_size (by repeat (first | (with_reducible first | exact HB.out | apply bal | apply pdn | apply bd1) | exact HB.out))) : w.heap.size ≤ gb159)); clear HB; have HB := n0_; have BK159 := n1_; have GW159 := n2_; have GE159 := n3_; clear n0_ n1_ n2_ n3_; clear hb hbox hg))
 (try simp only [Act.put, sit, scz, scs])
 go_cut [16] (fun v16 wc => ∃ (kq : Nat) (x16_3 : Bool), v16 = .bool x16_3 ∧ Aside0 (spec_ApplyOp.j0 kq a0 a1 x16_3 a2_0 a2_1 a2_2 = some (r1, r2)) ∧ Aside0 (kq ≤ k) ∧ Aside0 (wc.heap[gb159]? = some (.cells #[.int .i64 a2_0, .int .i64 a2_1, .string a2_2] 60 (0, 0))) ∧ Aside0 (Below w.heap.size w wc))
 case first =>
  have H := HC4.out
  clear HC4
  replace H := Option.bind_eq_some_iff.mp H
  obtain ⟨⟨t160, t161⟩, A60, H⟩ := H
  replace H : ((spec_OpOk.f k t160 t161 a2_0 a2_1 a2_2).bind fun t162 => (if t162 = true then (spec_ApplyOp.j0 k a0 a1 (decide ((a0.size : Int) > 64)) a2_0 a2_1 a2_2) else (spec_ApplyOp.j0 k a0 a1 true a2_0 a2_1 a2_2))) = some (r1, r2) := H
  have A6 := am A60
  clear A60
  replace H := Option.bind_eq_some_iff.mp H
  obtain ⟨t162, A70, H⟩ := H
  replace H : (if t162 = true then (spec_ApplyOp.j0 k a0 a1 (decide ((a0.size : Int) > 64)) a2_0 a2_1 a2_2) else (spec_ApplyOp.j0 k a0 a1 true a2_0 a2_1 a2_2)) = some (r1, r2) := H
  have A7 := am A70
  clear A70
  by_cases c8 : t162 = true
  ·subst c8
   have H1 : (spec_ApplyOp.j0 k a0 a1 (decide ((a0.size : Int) > 64)) a2_0 a2_1 a2_2) = some (r1, r2) := by rw [if_pos rfl] at H; exact H
   clear H
   have H := H1
   clear H1
   have H' := am H
   clear H
   try go_wp2
   have n0_ := am (kdr BK159.out)
   have n1_ := am (bd1 HB.out)
   clear BK159
   clear HB
   have BK159 := n0_
   have HB := n1_
   clear n0_ n1_
   refine start_ (n := 9) (S := fun w' => w'.cell? ⟨gb159, 0, none⟩ = some (.int .i64 a2_0) ∧ w'.cell? ⟨gb159, 1, none⟩ = some (.int .i64 a2_1) ∧ w'.cell? ⟨gb159, 2, none⟩ = some (.string a2_2)) (ds := []) #[false, false, false, false, false, false, false, false, false] (by kernel_rfl) rfl rfl ⟨(kce BK159.out 0).trans rfl, (kce BK159.out 1).trans rfl, (kce BK159.out 2).trans rfl⟩ (fun hHeld => ?_); refine with_tabW spec_ApplyOp.tab1 spec_ApplyOp.bits1 (fun HT_ HW_ => ?_)
   generalize w5.drew = w9 at BK159 HB hHeld ⊢
   refine take_ (i := 1) (N := some 9) (v := ?_) (a' := ?_) #[false, true, false, false, false, false, false, false, false] rfl rfl (take_ofW HT_.out HW_.out (by kernel_rfl)) (fun _ _ _ h => h) (Or.inl ⟨by rfl, ?_⟩) hHeld ?_ ?_
   rotate_left
   ·rintro w' ⟨s0, s1, s2⟩
    go_simp
    with_reducible rfl
   rotate_left
   ·simp only [Act.put, sit, scz, scs, i64_w, i32_w]
    rfl
   refine one_ (i := 0) (N := some 8) #[true, true, false, false, false, false, false, false, false] rfl rfl (one_of HT_.out (by kernel_rfl)) (by decide) (fun K hK => ?_)
   refine goes_ Try.func83 (by kernel_rfl) rfl #[] (by rfl) rfl rfl (by (try simp only [mta, mco, mni]); first | done | rfl | (simp only [lnd, lnt]; rfl)) ?_
   with_reducible refine (spec_l16Plain.calls  t160 t161 _ A6.out).mono ?_
   rintro e w10 ⟨rfl, hb⟩
   refine ⟨_, rfl, ?_⟩
   have n0_ := am (kbb (g := gb159) (o := .cells #[.int .i64 a2_0, .int .i64 a2_1, .string a2_2] 60 (0, 0)) (by (with_reducible repeat (first | apply kdn | apply kdr | apply kal)); exact BK159.out) hb)
   have n1_ := am (below_step (by repeat (first | (with_reducible first | exact HB.out | apply bal | apply pdn | apply bd1 | refine bst ?_ GE159.out) | exact HB.out)) hb)
   clear BK159
   clear HB
   have BK159 := n0_
   have HB := n1_
   clear n0_ n1_
   refine hK.out _ _ ⟨(kce BK159.out 0).trans rfl, (kce BK159.out 1).trans rfl, (kce BK159.out 2).trans rfl⟩ (fun hHeld => ?_)
   clear hK K
   refine norm_ (a' := ?_) ?_ ?_
   rotate_left
   ·show Act.put _ (some 8) _ = _
    simp only [Act.put, sit, scz, scs, i64_w, i32_w]
    rfl
   refine one_ (i := 2) (N := some 10) #[true, true, true, false, false, false, false, false, false] rfl rfl (one_of HT_.out (by kernel_rfl)) (by decide) (fun K hK => ?_)
   refine goes_ Try.func53 (by kernel_rfl) rfl #[.agg #[.int .i64 t160, .int .i64 t161], .agg #[.int .i64 a2_0, .int .i64 a2_1, .string a2_2]] (by rfl) rfl rfl (by (try simp only [mta, mco, mni]); first | done | rfl | (simp only [lnd, lnt]; rfl)) ?_
   with_reducible refine (spec_OpOk.calls k t160 t161 a2_0 a2_1 a2_2 true _ A7.out).mono ?_
   rintro e w11 ⟨rfl, hb⟩
   refine ⟨_, rfl, ?_⟩
   have n0_ := am (kbb (g := gb159) (o := .cells #[.int .i64 a2_0, .int .i64 a2_1, .string a2_2] 60 (0, 0)) (by (with_reducible repeat (first | apply kdn | apply kdr | apply kal)); exact BK159.out) hb)
   have n1_ := am (below_step (by repeat (first | (with_reducible first | exact HB.out | apply bal | apply pdn | apply bd1 | refine bst ?_ GE159.out) | exact HB.out)) hb)
   clear BK159
   clear HB
   have BK159 := n0_
   have HB := n1_
   clear n0_ n1_
   refine hK.out _ _ ⟨(kce BK159.out 0).trans rfl, (kce BK159.out 1).trans rfl, (kce BK159.out 2).trans rfl⟩ (fun hHeld => ?_)
   clear hK K
   refine norm_ (a' := ?_) ?_ ?_
   rotate_left
   ·show Act.put _ (some 10) _ = _
    simp only [Act.put, sit, scz, scs, i64_w, i32_w]
    rfl
   refine pure_ (i := 3) (N := some 11) (v := ?_) (a' := ?_) #[true, true, true, true, false, false, false, false, false] rfl rfl (any_of HT_.out (by kernel_rfl)) (fun _ _ _ h => h) (Or.inl ⟨by rfl, ?_⟩) ?_ ?_
   rotate_left
   ·intro w'
    go_simp
    with_reducible rfl
   rotate_left
   ·simp only [Act.put, sit, scz, scs, i64_w, i32_w]
    rfl
   refine pure_ (i := 4) (N := some 12) (v := ?_) (a' := ?_) #[true, true, true, true, true, false, false, false, false] rfl rfl (any_of HT_.out (by kernel_rfl)) (fun _ _ _ h => h) (Or.inl ⟨by rfl, ?_⟩) ?_ ?_
   rotate_left
   ·intro w'
    go_simp
    with_reducible rfl
   rotate_left
   ·simp only [Act.put, sit, scz, scs, i64_w, i32_w]
    rfl
   refine pure_ (i := 5) (N := some 13) (v := ?_) (a' := ?_) #[true, true, true, true, true, true, false, false, false] rfl rfl (any_of HT_.out (by kernel_rfl)) (fun _ _ _ h => h) (Or.inl ⟨by rfl, ?_⟩) ?_ ?_
   rotate_left
   ·intro w'
    go_simp
    with_reducible rfl
   rotate_left
   ·simp only [Act.put, sit, scz, scs, i64_w, i32_w]
    rfl
   refine pure_ (i := 6) (N := some 14) (v := ?_) (a' := ?_) #[true, true, true, true, true, true, true, false, false] rfl rfl (any_of HT_.out (by kernel_rfl)) (fun _ _ _ h => h) (Or.inl ⟨by rfl, ?_⟩) ?_ ?_
   rotate_left
   ·intro w'
    go_simp
    with_reducible rfl
   rotate_left
   ·simp only [Act.put, sit, scz, scs, i64_w, i32_w]
    rfl
   refine pure_ (i := 7) (N := some 15) (v := ?_) (a' := ?_) #[true, true, true, true, true, true, true, true, false] rfl rfl (any_of HT_.out (by kernel_rfl)) (fun _ _ _ h => h) (Or.inl ⟨by rfl, ?_⟩) ?_ ?_
   rotate_left
   ·intro w'
    go_simp
    with_reducible rfl
   rotate_left
   ·simp only [Act.put, sit, scz, scs, i64_w, i32_w]
    rfl
   refine pure_ (i := 8) (N := some 16) (v := ?_) (a' := ?_) #[true, true, true, true, true, true, true, true, true] rfl rfl (any_of HT_.out (by kernel_rfl)) (fun _ _ _ h => h) (Or.inl ⟨by rfl, ?_⟩) ?_ ?_
   rotate_left
   ·intro w'
    go_simp
    with_reducible rfl
   rotate_left
   ·simp only [Act.put, sit, scz, scs, i64_w, i32_w]
    rfl
   refine done_ (done_of HT_.out (by kernel_rfl)) ?_
   try go_wp2
   go_meet
   case rel => exact ⟨_, (decide ((a0.size : Int) > 64)), (by first | rfl | (simp; done) | (simp [*]; done)), H', ⟨by first | omega | exact Nat.le_refl _⟩, ⟨by (with_reducible repeat (first | apply kdn | apply kdr | apply kal)); exact BK159.out⟩, ⟨by repeat (first | (with_reducible first | exact HB.out | apply bal | apply pdn | apply bd1 | refine bst ?_ GE159.out) | exact HB.out)⟩⟩
  ·replace c8 := Bool.eq_false_iff.mpr c8
   subst c8
   have H1 : (spec_ApplyOp.j0 k a0 a1 true a2_0 a2_1 a2_2) = some (r1, r2) := by rw [if_neg (show ¬ (false = true) by decide)] at H; exact H
   clear H
   have H := H1
   clear H1
   have H' := am H
   clear H
   try go_wp2
   have n0_ := am (kdr BK159.out)
   have n1_ := am (bd1 HB.out)
   clear BK159
   clear HB
   have BK159 := n0_
   have HB := n1_
   clear n0_ n1_
   refine start_ (n := 9) (S := fun w' => w'.cell? ⟨gb159, 0, none⟩ = some (.int .i64 a2_0) ∧ w'.cell? ⟨gb159, 1, none⟩ = some (.int .i64 a2_1) ∧ w'.cell? ⟨gb159, 2, none⟩ = some (.string a2_2)) (ds := []) #[false, false, false, false, false, false, false, false, false] (by kernel_rfl) rfl rfl ⟨(kce BK159.out 0).trans rfl, (kce BK159.out 1).trans rfl, (kce BK159.out 2).trans rfl⟩ (fun hHeld => ?_); refine with_tabW spec_ApplyOp.tab1 spec_ApplyOp.bits1 (fun HT_ HW_ => ?_)
   generalize w5.drew = w12 at BK159 HB hHeld ⊢
   refine take_ (i := 1) (N := some 9) (v := ?_) (a' := ?_) #[false, true, false, false, false, false, false, false, false] rfl rfl (take_ofW HT_.out HW_.out (by kernel_rfl)) (fun _ _ _ h => h) (Or.inl ⟨by rfl, ?_⟩) hHeld ?_ ?_
   rotate_left
   ·rintro w' ⟨s0, s1, s2⟩
    go_simp
    with_reducible rfl
   rotate_left
   ·simp only [Act.put, sit, scz, scs, i64_w, i32_w]
    rfl
   refine one_ (i := 0) (N := some 8) #[true, true, false, false, false, false, false, false, false] rfl rfl (one_of HT_.out (by kernel_rfl)) (by decide) (fun K hK => ?_)
   refine goes_ Try.func83 (by kernel_rfl) rfl #[] (by rfl) rfl rfl (by (try simp only [mta, mco, mni]); first | done | rfl | (simp only [lnd, lnt]; rfl)) ?_
   with_reducible refine (spec_l16Plain.calls  t160 t161 _ A6.out).mono ?_
   rintro e w13 ⟨rfl, hb⟩
   refine ⟨_, rfl, ?_⟩
   have n0_ := am (kbb (g := gb159) (o := .cells #[.int .i64 a2_0, .int .i64 a2_1, .string a2_2] 60 (0, 0)) (by (with_reducible repeat (first | apply kdn | apply kdr | apply kal)); exact BK159.out) hb)
   have n1_ := am (below_step (by repeat (first | (with_reducible first | exact HB.out | apply bal | apply pdn | apply bd1 | refine bst ?_ GE159.out) | exact HB.out)) hb)
   clear BK159
   clear HB
   have BK159 := n0_
   have HB := n1_
   clear n0_ n1_
   refine hK.out _ _ ⟨(kce BK159.out 0).trans rfl, (kce BK159.out 1).trans rfl, (kce BK159.out 2).trans rfl⟩ (fun hHeld => ?_)
   clear hK K
   refine norm_ (a' := ?_) ?_ ?_
   rotate_left
   ·show Act.put _ (some 8) _ = _
    simp only [Act.put, sit, scz, scs, i64_w, i32_w]
    rfl
   refine one_ (i := 2) (N := some 10) #[true, true, true, false, false, false, false, false, false] rfl rfl (one_of HT_.out (by kernel_rfl)) (by decide) (fun K hK => ?_)
   refine goes_ Try.func53 (by kernel_rfl) rfl #[.agg #[.int .i64 t160, .int .i64 t161], .agg #[.int .i64 a2_0, .int .i64 a2_1, .string a2_2]] (by rfl) rfl rfl (by (try simp only [mta, mco, mni]); first | done | rfl | (simp only [lnd, lnt]; rfl)) ?_
   with_reducible refine (spec_OpOk.calls k t160 t161 a2_0 a2_1 a2_2 false _ A7.out).mono ?_
   rintro e w14 ⟨rfl, hb⟩
   refine ⟨_, rfl, ?_⟩
   have n0_ := am (kbb (g := gb159) (o := .cells #[.int .i64 a2_0, .int .i64 a2_1, .string a2_2] 60 (0, 0)) (by (with_reducible repeat (first | apply kdn | apply kdr | apply kal)); exact BK159.out) hb)
   have n1_ := am (below_step (by repeat (first | (with_reducible first | exact HB.out | apply bal | apply pdn | apply bd1 | refine bst ?_ GE159.out) | exact HB.out)) hb)
   clear BK159
   clear HB
   have BK159 := n0_
   have HB := n1_
   clear n0_ n1_
   refine hK.out _ _ ⟨(kce BK159.out 0).trans rfl, (kce BK159.out 1).trans rfl, (kce BK159.out 2).trans rfl⟩ (fun hHeld => ?_)
   clear hK K
   refine norm_ (a' := ?_) ?_ ?_
   rotate_left
   ·show Act.put _ (some 10) _ = _
    simp only [Act.put, sit, scz, scs, i64_w, i32_w]
    rfl
   refine pure_ (i := 3) (N := some 11) (v := ?_) (a' := ?_) #[true, true, true, true, false, false, false, false, false] rfl rfl (any_of HT_.out (by kernel_rfl)) (fun _ _ _ h => h) (Or.inl ⟨by rfl, ?_⟩) ?_ ?_
   rotate_left
   ·intro w'
    go_simp
    with_reducible rfl
   rotate_left
   ·simp only [Act.put, sit, scz, scs, i64_w, i32_w]
    rfl
   refine pure_ (i := 4) (N := some 12) (v := ?_) (a' := ?_) #[true, true, true, true, true, false, false, false, false] rfl rfl (any_of HT_.out (by kernel_rfl)) (fun _ _ _ h => h) (Or.inl ⟨by rfl, ?_⟩) ?_ ?_
   rotate_left
   ·intro w'
    go_simp
    with_reducible rfl
   rotate_left
   ·simp only [Act.put, sit, scz, scs, i64_w, i32_w]
    rfl
   refine pure_ (i := 5) (N := some 13) (v := undef) (a' := ?_) #[true, true, true, true, true, true, false, false, false] rfl rfl (any_of HT_.out (by kernel_rfl)) (fun _ _ _ h => h) (Or.inr ⟨by rfl, rfl⟩) ?_ ?_
   rotate_left
   ·simp only [Act.put, sit, scz, scs, i64_w, i32_w]
    rfl
   refine pure_ (i := 6) (N := some 14) (v := undef) (a' := ?_) #[true, true, true, true, true, true, true, false, false] rfl rfl (any_of HT_.out (by kernel_rfl)) (fun _ _ _ h => h) (Or.inr ⟨by rfl, rfl⟩) ?_ ?_
   rotate_left
   ·simp only [Act.put, sit, scz, scs, i64_w, i32_w]
    rfl
   refine pure_ (i := 7) (N := some 15) (v := undef) (a' := ?_) #[true, true, true, true, true, true, true, true, false] rfl rfl (any_of HT_.out (by kernel_rfl)) (fun _ _ _ h => h) (Or.inr ⟨by rfl, rfl⟩) ?_ ?_
   rotate_left
   ·simp only [Act.put, sit, scz, scs, i64_w, i32_w]
    rfl
   refine pure_ (i := 8) (N := some 16) (v := ?_) (a' := ?_) #[true, true, true, true, true, true, true, true, true] rfl rfl (any_of HT_.out (by kernel_rfl)) (fun _ _ _ h => h) (Or.inl ⟨by rfl, ?_⟩) ?_ ?_
   rotate_left
   ·intro w'
    go_simp
    with_reducible rfl
   rotate_left
   ·simp only [Act.put, sit, scz, scs, i64_w, i32_w]
    rfl
   refine done_ (done_of HT_.out (by kernel_rfl)) ?_
   try go_wp2
   go_meet
   case rel => exact ⟨_, (true), (by first | rfl | (simp; done) | (simp [*]; done)), H', ⟨by first | omega | exact Nat.le_refl _⟩, ⟨by (with_reducible repeat (first | apply kdn | apply kdr | apply kal)); exact BK159.out⟩, ⟨by repeat (first | (with_reducible first | exact HB.out | apply bal | apply pdn | apply bd1 | refine bst ?_ GE159.out) | exact HB.out)⟩⟩
 case rest =>
  clear HC4
  obtain ⟨kq, x16_3, rfl, HA, HJ3, BK159, HB⟩ := hcut
  cases kq with
  | zero => exact absurd HA.out (by simp [spec_ApplyOp.j0])
  | succ kj3 =>
   have H := HA.out
   clear HA
   simp only [spec_ApplyOp.j0] at H
   by_cases c15 : x16_3 = true
   ·subst c15
    have H1 : (some ((⟨#[]⟩ : ByteArray), false)) = some (r1, r2) := by rw [if_pos rfl] at H; exact H
    clear H
    have H := H1
    clear H1
    simp only [Option.some.injEq, Prod.mk.injEq] at H
    obtain ⟨rfl, rfl⟩ := H
    go_wp2
    go_ret2
    exact ⟨by first | rfl | (simp [errW_none, errW_some] <;> rfl) | (simp [*, errW_none, errW_some] <;> rfl), by repeat (first | (with_reducible first | exact HB.out | apply bal | apply pdn | apply bd1 | refine bst ?_ GE159.out) | exact HB.out)⟩
   ·replace c15 := Bool.eq_false_iff.mpr c15
    subst c15
    have H1 : (if a1 = true then (spec_ApplyOp.j1 kj3 a0 a1 a2_0 a2_1 a2_2) else (spec_ApplyOp.j1 kj3 (⟨#[]⟩ : ByteArray) a1 a2_0 a2_1 a2_2)) = some (r1, r2) := by rw [if_neg (show ¬ (false = true) by decide)] at H; exact H
    clear H
    have H := H1
    clear H1
    have HC16 := am H
    clear H
    go_upto_if 18 with (fail)
    go_cut [0] (fun v0 wc => ∃ (kq : Nat) (x0_15 : ByteArray), v0 = .string x0_15 ∧ Aside0 (spec_ApplyOp.j1 kq x0_15 a1 a2_0 a2_1 a2_2 = some (r1, r2)) ∧ Aside0 (kq ≤ kj3) ∧ Aside0 (wc.heap[gb159]? = some (.cells #[.int .i64 a2_0, .int .i64 a2_1, .string a2_2] 60 (0, 0))) ∧ Aside0 (Below w.heap.size w wc))
    case first =>
     have H := HC16.out
     clear HC16
     by_cases c17 : a1 = true
     ·subst c17
      have H1 : (spec_ApplyOp.j1 kj3 a0 true a2_0 a2_1 a2_2) = some (r1, r2) := by rw [if_pos rfl] at H; exact H
      clear H
      have H := H1
      clear H1
      have H' := am H
      clear H
      go_wp2
      go_meet
      case rel => exact ⟨_, (a0), (by first | rfl | (simp; done) | (simp [*]; done)), H', ⟨by have := HJ3.out; first | omega | exact Nat.le_refl _⟩, ⟨by (with_reducible repeat (first | apply kdn | apply kdr | apply kal)); exact BK159.out⟩, ⟨by repeat (first | (with_reducible first | exact HB.out | apply bal | apply pdn | apply bd1 | refine bst ?_ GE159.out) | exact HB.out)⟩⟩
     ·replace c17 := Bool.eq_false_iff.mpr c17
      subst c17
      have H1 : (spec_ApplyOp.j1 kj3 (⟨#[]⟩ : ByteArray) false a2_0 a2_1 a2_2) = some (r1, r2) := by rw [if_neg (show ¬ (false = true) by decide)] at H; exact H
      clear H
      have H := H1
      clear H1
      have H' := am H
      clear H
      go_wp2
      go_meet
      case rel => exact ⟨_, ((⟨#[]⟩ : ByteArray)), (by first | rfl | (simp; done) | (simp [*]; done)), H', ⟨by have := HJ3.out; first | omega | exact Nat.le_refl _⟩, ⟨by (with_reducible repeat (first | apply kdn | apply kdr | apply kal)); exact BK159.out⟩, ⟨by repeat (first | (with_reducible first | exact HB.out | apply bal | apply pdn | apply bd1 | refine bst ?_ GE159.out) | exact HB.out)⟩⟩
    case rest =>
     clear HC16
     obtain ⟨kq, x0_15, rfl, HA, HJ15, BK159, HB⟩ := hcut
     cases kq with
     | zero => exact absurd HA.out (by simp [spec_ApplyOp.j1])
     | succ kj15 =>
      have H := HA.out
      clear HA
      simp only [spec_ApplyOp.j1] at H
      by_cases c18 : a2_0 = 1
      ·rw [if_pos c18] at H
       have c18b0 : (a2_0 == 1) = true := beq_iff_eq.mpr c18
       have c18b1 : (a2_0 != 1) = false := bne_eq_false_iff_eq.mpr c18
       clear c18
       simp only [Option.some.injEq, Prod.mk.injEq] at H
       obtain ⟨rfl, rfl⟩ := H
       have hcz19_0 : wc.cell? ⟨gb159, 0, none⟩ = some (.int .i64 a2_0) := (kce BK159.out 0).trans rfl
       have hcz19_1 : wc.cell? ⟨gb159, 1, none⟩ = some (.int .i64 a2_1) := (kce BK159.out 1).trans rfl
       have hcz19_2 : wc.cell? ⟨gb159, 2, none⟩ = some (.string a2_2) := (kce BK159.out 2).trans rfl
       have hfz19_0 := kfr BK159.out 0
       have hfz19_1 := kfr BK159.out 1
       have hfz19_2 := kfr BK159.out 2
       go_wp2
       go_ret2
       exact ⟨by first | rfl | (simp [errW_none, errW_some] <;> rfl) | (simp [*, errW_none, errW_some] <;> rfl), by repeat (first | (with_reducible first | exact HB.out | apply bal | apply pdn | apply bd1 | refine bst ?_ GE159.out) | exact HB.out)⟩
      ·rw [if_neg c18] at H
       have c18b0 : (a2_0 == 1) = false := beq_eq_false_iff_ne.mpr c18
       have c18b1 : (a2_0 != 1) = true := bne_iff_ne.mpr c18
       by_cases c20 : a2_0 = 2
       ·rw [if_pos c20] at H
        have c20b0 : (a2_0 == 2) = true := beq_iff_eq.mpr c20
        have c20b1 : (a2_0 != 2) = false := bne_eq_false_iff_eq.mpr c20
        clear c20
        simp only [Option.some.injEq, Prod.mk.injEq] at H
        obtain ⟨rfl, rfl⟩ := H
        have hcz21_0 : wc.cell? ⟨gb159, 0, none⟩ = some (.int .i64 a2_0) := (kce BK159.out 0).trans rfl
        have hcz21_1 : wc.cell? ⟨gb159, 1, none⟩ = some (.int .i64 a2_1) := (kce BK159.out 1).trans rfl
        have hcz21_2 : wc.cell? ⟨gb159, 2, none⟩ = some (.string a2_2) := (kce BK159.out 2).trans rfl
        have hfz21_0 := kfr BK159.out 0
        have hfz21_1 := kfr BK159.out 1
        have hfz21_2 := kfr BK159.out 2
        go_wp2
        go_ret2
        exact ⟨by first | rfl | (simp [errW_none, errW_some] <;> rfl) | (simp [*, errW_none, errW_some] <;> rfl), by repeat (first | (with_reducible first | exact HB.out | apply bal | apply pdn | apply bd1 | refine bst ?_ GE159.out) | exact HB.out)⟩
       ·rw [if_neg c20] at H
        have c20b0 : (a2_0 == 2) = false := beq_eq_false_iff_ne.mpr c20
        have c20b1 : (a2_0 != 2) = true := bne_iff_ne.mpr c20
        by_cases c22 : a2_0 = 3
        ·rw [if_pos c22] at H
         have c22b0 : (a2_0 == 3) = true := beq_iff_eq.mpr c22
         have c22b1 : (a2_0 != 3) = false := bne_eq_false_iff_eq.mpr c22
         clear c22
         replace H := Option.bind_eq_some_iff.mp H
         obtain ⟨t163, A230, H⟩ := H
         replace H : (some (t163, true)) = some (r1, r2) := H
         have A23 := am A230
         clear A230
         simp only [Option.some.injEq, Prod.mk.injEq] at H
         obtain ⟨rfl, rfl⟩ := H
         have hcz24_0 : wc.cell? ⟨gb159, 0, none⟩ = some (.int .i64 a2_0) := (kce BK159.out 0).trans rfl
         have hcz24_1 : wc.cell? ⟨gb159, 1, none⟩ = some (.int .i64 a2_1) := (kce BK159.out 1).trans rfl
         have hcz24_2 : wc.cell? ⟨gb159, 2, none⟩ = some (.string a2_2) := (kce BK159.out 2).trans rfl
         have hfz24_0 := kfr BK159.out 0
         have hfz24_1 := kfr BK159.out 1
         have hfz24_2 := kfr BK159.out 2
         go_wp2_with (first | ((with_reducible refine gate_callee (f := 94) rfl ?_); refine goesL_ (some 36) rfl rfl Try.func94 (by kernel_rfl) rfl #[.string x0_15, .int .i64 a2_1, .string a2_2] rfl (by (try simp only [mta, mco, mni]); first | done | rfl | (simp only [lnd, lnt]; rfl)) ?_; (with_reducible refine (spec_l16Lay.calls x0_15 a2_1 a2_2 t163 _ A23.out).mono ?_); rintro e w25 ⟨rfl, hb⟩; refine ⟨_, rfl, ?_⟩; have n0_ := am (kbb (g := gb159) (o := .cells #[.int .i64 a2_0, .int .i64 a2_1, .string a2_2] 60 (0, 0)) (by (with_reducible repeat (first | apply kdn | apply kdr | apply kal)); exact BK159.out) hb); have n1_ := am (below_step (by repeat (first | (with_reducible first | exact HB.out | apply bal | apply pdn | apply bd1 | refine bst ?_ GE159.out) | exact HB.out)) hb); clear BK159; clear HB; have BK159 := n0_; have HB := n1_; clear n0_ n1_; (try clear hb); (try clear hb2); (try clear hk); (try clear hi)))
         go_ret2
         exact ⟨by first | rfl | (simp [errW_none, errW_some] <;> rfl) | (simp [*, errW_none, errW_some] <;> rfl), by repeat (first | (with_reducible first | exact HB.out | apply bal | apply pdn | apply bd1 | refine bst ?_ GE159.out) | exact HB.out)⟩
        ·rw [if_neg c22] at H
         have c22b0 : (a2_0 == 3) = false := beq_eq_false_iff_ne.mpr c22
         have c22b1 : (a2_0 != 3) = true := bne_iff_ne.mpr c22
         by_cases c26 : a2_0 = 4
         ·rw [if_pos c26] at H
          have c26b0 : (a2_0 == 4) = true := beq_iff_eq.mpr c26
          have c26b1 : (a2_0 != 4) = false := bne_eq_false_iff_eq.mpr c26
          clear c26
          replace H := Option.bind_eq_some_iff.mp H
          obtain ⟨t164, A270, H⟩ := H
          replace H : (some (t164, true)) = some (r1, r2) := H
          have A27 := am A270
          clear A270
          simp only [Option.some.injEq, Prod.mk.injEq] at H
          obtain ⟨rfl, rfl⟩ := H
          have hcz28_0 : wc.cell? ⟨gb159, 0, none⟩ = some (.int .i64 a2_0) := (kce BK159.out 0).trans rfl
          have hcz28_1 : wc.cell? ⟨gb159, 1, none⟩ = some (.int .i64 a2_1) := (kce BK159.out 1).trans rfl
          have hcz28_2 : wc.cell? ⟨gb159, 2, none⟩ = some (.string a2_2) := (kce BK159.out 2).trans rfl
          have hfz28_0 := kfr BK159.out 0
          have hfz28_1 := kfr BK159.out 1
          have hfz28_2 := kfr BK159.out 2
          go_wp2_with (first | ((with_reducible refine gate_callee (f := 94) rfl ?_); refine goesL_ (some 44) rfl rfl Try.func94 (by kernel_rfl) rfl #[.string x0_15, .int .i64 (x0_15.size : Int), .string a2_2] rfl (by (try simp only [mta, mco, mni]); first | done | rfl | (simp only [lnd, lnt]; rfl)) ?_; (with_reducible refine (spec_l16Lay.calls x0_15 (x0_15.size : Int) a2_2 t164 _ A27.out).mono ?_); rintro e w29 ⟨rfl, hb⟩; refine ⟨_, rfl, ?_⟩; have n0_ := am (kbb (g := gb159) (o := .cells #[.int .i64 a2_0, .int .i64 a2_1, .string a2_2] 60 (0, 0)) (by (with_reducible repeat (first | apply kdn | apply kdr | apply kal)); exact BK159.out) hb); have n1_ := am (below_step (by repeat (first | (with_reducible first | exact HB.out | apply bal | apply pdn | apply bd1 | refine bst ?_ GE159.out) | exact HB.out)) hb); clear BK159; clear HB; have BK159 := n0_; have HB := n1_; clear n0_ n1_; (try clear hb); (try clear hb2); (try clear hk); (try clear hi)))
          go_ret2
          exact ⟨by first | rfl | (simp [errW_none, errW_some] <;> rfl) | (simp [*, errW_none, errW_some] <;> rfl), by repeat (first | (with_reducible first | exact HB.out | apply bal | apply pdn | apply bd1 | refine bst ?_ GE159.out) | exact HB.out)⟩
         ·rw [if_neg c26] at H
          have c26b0 : (a2_0 == 4) = false := beq_eq_false_iff_ne.mpr c26
          have c26b1 : (a2_0 != 4) = true := bne_iff_ne.mpr c26
          by_cases c30 : a2_0 = 5
          ·rw [if_pos c30] at H
           have c30b0 : (a2_0 == 5) = true := beq_iff_eq.mpr c30
           have c30b1 : (a2_0 != 5) = false := bne_eq_false_iff_eq.mpr c30
           clear c30
           replace H := Option.bind_eq_some_iff.mp H
           obtain ⟨t165, A310, H⟩ := H
           replace H : (if 0 ≤ t165 then (if t165 ≤ (x0_15.size : Int) then (some (x0_15.extract 0 (t165 : Int).toNat, a1)) else (none)) else (none)) = some (r1, r2) := H
           have A31 := am A310
           clear A310
           by_cases c32 : 0 ≤ t165
           ·rw [if_pos c32] at H
            have c32b0 := eq_true c32
            have c32b1 : decide (0 ≤ t165) = true := decide_eq_true c32
            clear c32
            by_cases c33 : t165 ≤ (x0_15.size : Int)
            ·rw [if_pos c33] at H
             have c33b0 := eq_true c33
             have c33b1 : decide (t165 ≤ (x0_15.size : Int)) = true := decide_eq_true c33
             clear c33
             simp only [Option.some.injEq, Prod.mk.injEq] at H
             obtain ⟨rfl, rfl⟩ := H
             have hcz34_0 : wc.cell? ⟨gb159, 0, none⟩ = some (.int .i64 a2_0) := (kce BK159.out 0).trans rfl
             have hcz34_1 : wc.cell? ⟨gb159, 1, none⟩ = some (.int .i64 a2_1) := (kce BK159.out 1).trans rfl
             have hcz34_2 : wc.cell? ⟨gb159, 2, none⟩ = some (.string a2_2) := (kce BK159.out 2).trans rfl
             have hfz34_0 := kfr BK159.out 0
             have hfz34_1 := kfr BK159.out 1
             have hfz34_2 := kfr BK159.out 2
             go_wp2_with (first | ((with_reducible refine gate_callee (f := 95) rfl ?_); refine goesL_ (some 52) rfl rfl Try.func95 (by kernel_rfl) rfl #[.int .i64 a2_1, .int .i64 (x0_15.size : Int)] rfl (by (try simp only [mta, mco, mni]); first | done | rfl | (simp only [lnd, lnt]; rfl)) ?_; (with_reducible refine (spec_l00Min.calls a2_1 (x0_15.size : Int) t165 _ A31.out).mono ?_); rintro e w' ⟨rfl, ⟨nd, rfl⟩⟩; refine ⟨_, rfl, ?_⟩))
             go_ret2
             exact ⟨by first | rfl | (simp [errW_none, errW_some] <;> rfl) | (simp [*, errW_none, errW_some] <;> rfl), by repeat (first | (with_reducible first | exact HB.out | apply bal | apply pdn | apply bd1 | refine bst ?_ GE159.out) | exact HB.out)⟩
            ·rw [if_neg c33] at H
             exact absurd H (by simp)
           ·rw [if_neg c32] at H
            exact absurd H (by simp)
          ·rw [if_neg c30] at H
           have c30b0 : (a2_0 == 5) = false := beq_eq_false_iff_ne.mpr c30
           have c30b1 : (a2_0 != 5) = true := bne_iff_ne.mpr c30
           simp only [Option.some.injEq, Prod.mk.injEq] at H
           obtain ⟨rfl, rfl⟩ := H
           have hcz35_0 : wc.cell? ⟨gb159, 0, none⟩ = some (.int .i64 a2_0) := (kce BK159.out 0).trans rfl
           have hcz35_1 : wc.cell? ⟨gb159, 1, none⟩ = some (.int .i64 a2_1) := (kce BK159.out 1).trans rfl
           have hcz35_2 : wc.cell? ⟨gb159, 2, none⟩ = some (.string a2_2) := (kce BK159.out 2).trans rfl
           have hfz35_0 := kfr BK159.out 0
           have hfz35_1 := kfr BK159.out 1
           have hfz35_2 := kfr BK159.out 2
           go_wp2
           go_ret2
           exact ⟨by first | rfl | (simp [errW_none, errW_some] <;> rfl) | (simp [*, errW_none, errW_some] <;> rfl), by repeat (first | (with_reducible first | exact HB.out | apply bal | apply pdn | apply bd1 | refine bst ?_ GE159.out) | exact HB.out)⟩

end Go.Proofs.Ythphhklbliambaa.MFnOps
