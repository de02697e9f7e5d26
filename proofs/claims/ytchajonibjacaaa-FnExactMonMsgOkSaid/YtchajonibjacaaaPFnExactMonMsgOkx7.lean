-- PRINTED BY print.sh 35421559b90ae4d0a3588c463048766b98c2df88dd9212a6774a882060cdf62d: not written by this session
import Derived.Test.YtchajonibjacaaaPFnExactMonMsgOkx0
import Derived.Test.YtchajonibjacaaaPFnExactMonMsgOkx1
import Derived.Test.YtchajonibjacaaaPFnExactMonMsgOkx2
import Derived.Test.YtchajonibjacaaaPFnExactMonMsgOkx5
import Derived.Test.YtchajonibjacaaaPFnExactMonMsgOkx6
namespace Go.Proofs.Ytchajonibjacaaa.PFnExactMonMsgOk
open Go.RowKit Go.Proofs.YtchajonibjacaaaW.PrintWords Go.Proofs.YtchajonibjacaaaW.PrintLast Go.Proofs.YtchajonibjacaaaW.PrintMore
attribute [local go_sem] max2_int min2_int max_two min_two max_three min_three max_four min_four   -- for this text's walks alone
set_option linter.unusedVariables false
set_option linter.unusedSimpArgs false

attribute [local go_sem high] eqA33 eqA76
/-! ### impl_MonMsgOk: function 42 -/
mutual
def impl_MonMsgOk.j0 : Nat → Bool → Int → Int → Int → Int → Int → Int → Int → Int → Int → Int → Int → Int → Option (Bool)
  | 0, _, _, _, _, _, _, _, _, _, _, _, _, _ => none
  | k + 1, x30, x176000, x176001, x176002, x176003, x176004, x176005, x176006, x176007, x176008, x176009, x176010, x176011 => if x30 = true then (some false) else (if x176000 = 1 then (impl_MonMsgOk.j1 k x176000 (x176000 == 1) x176000 x176001 x176002 x176003 x176004 x176005 x176006 x176007 x176008 x176009 x176010 x176011) else (impl_MonMsgOk.j1 k x176000 (x176000 == 4) x176000 x176001 x176002 x176003 x176004 x176005 x176006 x176007 x176008 x176009 x176010 x176011))
def impl_MonMsgOk.j1 : Nat → Int → Bool → Int → Int → Int → Int → Int → Int → Int → Int → Int → Int → Int → Int → Option (Bool)
  | 0, _, _, _, _, _, _, _, _, _, _, _, _, _, _ => none
  | k + 1, x32, x33, x176000, x176001, x176002, x176003, x176004, x176005, x176006, x176007, x176008, x176009, x176010, x176011 => if x33 = true then (if (x176006 == 0 && (x176007 == 0)) = true then (some (x176008 == 0 && (x176009 == 0 && (x176010 == 0 && (x176011 == 0))))) else (some false)) else (if x32 = 2 then ((impl_ballotOk.f x176006 x176007).bind fun t180 => (if t180 = true then ((impl_lessBallot.f k x176006 x176007 x176004 x176005).bind fun t181 => (if t181 = true then ((impl_incWith.f k x176008 x176009 x176010 x176011 x176006 x176007 x176003).bind fun t182 => (some t182)) else (some false))) else (some false))) else (if x32 = 3 then (if (x176006 == 0 && (x176007 == 0)) = true then ((impl_incFor.f k x176008 x176009 x176010 x176011 x176003).bind fun t183 => (some t183)) else (some false)) else (some false)))
end
def impl_MonMsgOk.f (k : Nat) (a0_0 : Int) (a0_1 : Int) (a0_2 : Int) (a0_3 : Int) (a0_4 : Int) (a0_5 : Int) (a0_6 : Int) (a0_7 : Int) (a0_8 : Int) (a0_9 : Int) (a0_10 : Int) (a0_11 : Int) : Option (Bool) := (impl_between.f a0_1 0 4).bind fun t176 => (if t176 = true then ((impl_between.f a0_2 0 4).bind fun t177 => (if t177 = true then ((impl_isDecidable.f a0_3).bind fun t178 => (if t178 = true then ((impl_ballotOk.f a0_4 a0_5).bind fun t179 => (if t179 = true then (impl_MonMsgOk.j0 k (a0_4 == 0 && (a0_5 == 0)) a0_0 a0_1 a0_2 a0_3 a0_4 a0_5 a0_6 a0_7 a0_8 a0_9 a0_10 a0_11) else (impl_MonMsgOk.j0 k true a0_0 a0_1 a0_2 a0_3 a0_4 a0_5 a0_6 a0_7 a0_8 a0_9 a0_10 a0_11))) else (impl_MonMsgOk.j0 k true a0_0 a0_1 a0_2 a0_3 a0_4 a0_5 a0_6 a0_7 a0_8 a0_9 a0_10 a0_11))) else (impl_MonMsgOk.j0 k true a0_0 a0_1 a0_2 a0_3 a0_4 a0_5 a0_6 a0_7 a0_8 a0_9 a0_10 a0_11))) else (impl_MonMsgOk.j0 k true a0_0 a0_1 a0_2 a0_3 a0_4 a0_5 a0_6 a0_7 a0_8 a0_9 a0_10 a0_11))
theorem impl_MonMsgOk.mono_l : ∀ k, (∀ y0 y1 y2 y3 y4 y5 y6 y7 y8 y9 y10 y11 y12, LeO (impl_MonMsgOk.j0 k y0 y1 y2 y3 y4 y5 y6 y7 y8 y9 y10 y11 y12) (impl_MonMsgOk.j0 (k + 1) y0 y1 y2 y3 y4 y5 y6 y7 y8 y9 y10 y11 y12)) ∧ (∀ y0 y1 y2 y3 y4 y5 y6 y7 y8 y9 y10 y11 y12 y13, LeO (impl_MonMsgOk.j1 k y0 y1 y2 y3 y4 y5 y6 y7 y8 y9 y10 y11 y12 y13) (impl_MonMsgOk.j1 (k + 1) y0 y1 y2 y3 y4 y5 y6 y7 y8 y9 y10 y11 y12 y13))
  | 0 => ⟨fun _ _ _ _ _ _ _ _ _ _ _ _ _ r h => by simp [impl_MonMsgOk.j0] at h, fun _ _ _ _ _ _ _ _ _ _ _ _ _ _ r h => by simp [impl_MonMsgOk.j1] at h⟩
  | k + 1 => by
    obtain ⟨ih0, ih1⟩ := impl_MonMsgOk.mono_l k
    refine ⟨?_, ?_⟩
    · intro y0 y1 y2 y3 y4 y5 y6 y7 y8 y9 y10 y11 y12
      unfold impl_MonMsgOk.j0
      repeat' first
      | (with_reducible exact ih0 _ _ _ _ _ _ _ _ _ _ _ _ _)
      | (with_reducible exact ih1 _ _ _ _ _ _ _ _ _ _ _ _ _ _)
      | (with_reducible exact impl_incFor.mono _ _ _ _ _ _)
      | (with_reducible exact impl_incWith.mono _ _ _ _ _ _ _ _)
      | (with_reducible exact impl_lessBallot.mono _ _ _ _ _)
      | (with_reducible exact LeO.refl _)
      | (with_reducible exact LeO.none _)
      | (with_reducible refine LeO.ite ?_ ?_)
      | (with_reducible refine LeO.bind ?_ (fun _ => ?_))
      | exact ih0 _ _ _ _ _ _ _ _ _ _ _ _ _
      | exact ih1 _ _ _ _ _ _ _ _ _ _ _ _ _ _
      | exact impl_incFor.mono _ _ _ _ _ _
      | exact impl_incWith.mono _ _ _ _ _ _ _ _
      | exact impl_lessBallot.mono _ _ _ _ _
      | exact LeO.none _
      | refine LeO.ite ?_ ?_
      | refine LeO.bind ?_ (fun _ => ?_)
    · intro y0 y1 y2 y3 y4 y5 y6 y7 y8 y9 y10 y11 y12 y13
      unfold impl_MonMsgOk.j1
      repeat' first
      | (with_reducible exact ih0 _ _ _ _ _ _ _ _ _ _ _ _ _)
      | (with_reducible exact ih1 _ _ _ _ _ _ _ _ _ _ _ _ _ _)
      | (with_reducible exact impl_incFor.mono _ _ _ _ _ _)
      | (with_reducible exact impl_incWith.mono _ _ _ _ _ _ _ _)
      | (with_reducible exact impl_lessBallot.mono _ _ _ _ _)
      | (with_reducible exact LeO.refl _)
      | (with_reducible exact LeO.none _)
      | (with_reducible refine LeO.ite ?_ ?_)
      | (with_reducible refine LeO.bind ?_ (fun _ => ?_))
      | exact ih0 _ _ _ _ _ _ _ _ _ _ _ _ _
      | exact ih1 _ _ _ _ _ _ _ _ _ _ _ _ _ _
      | exact impl_incFor.mono _ _ _ _ _ _
      | exact impl_incWith.mono _ _ _ _ _ _ _ _
      | exact impl_lessBallot.mono _ _ _ _ _
      | exact LeO.none _
      | refine LeO.ite ?_ ?_
      | refine LeO.bind ?_ (fun _ => ?_)
theorem impl_MonMsgOk.mono : ∀ a0 a1 a2 a3 a4 a5 a6 a7 a8 a9 a10 a11 k, LeO (impl_MonMsgOk.f k a0 a1 a2 a3 a4 a5 a6 a7 a8 a9 a10 a11) (impl_MonMsgOk.f (k + 1) a0 a1 a2 a3 a4 a5 a6 a7 a8 a9 a10 a11) := by
  intro a0 a1 a2 a3 a4 a5 a6 a7 a8 a9 a10 a11 k
  obtain ⟨ih0, ih1⟩ := impl_MonMsgOk.mono_l k
  unfold impl_MonMsgOk.f
  repeat' first
      | (with_reducible exact ih0 _ _ _ _ _ _ _ _ _ _ _ _ _)
      | (with_reducible exact ih1 _ _ _ _ _ _ _ _ _ _ _ _ _ _)
      | (with_reducible exact impl_incFor.mono _ _ _ _ _ _)
      | (with_reducible exact impl_incWith.mono _ _ _ _ _ _ _ _)
      | (with_reducible exact impl_lessBallot.mono _ _ _ _ _)
      | (with_reducible exact LeO.refl _)
      | (with_reducible exact LeO.none _)
      | (with_reducible refine LeO.ite ?_ ?_)
      | (with_reducible refine LeO.bind ?_ (fun _ => ?_))
      | exact ih0 _ _ _ _ _ _ _ _ _ _ _ _ _
      | exact ih1 _ _ _ _ _ _ _ _ _ _ _ _ _ _
      | exact impl_incFor.mono _ _ _ _ _ _
      | exact impl_incWith.mono _ _ _ _ _ _ _ _
      | exact impl_lessBallot.mono _ _ _ _ _
      | exact LeO.none _
      | refine LeO.ite ?_ ?_
      | refine LeO.bind ?_ (fun _ => ?_)
set_option maxHeartbeats 8000000 in
set_option maxRecDepth 100000 in
theorem impl_MonMsgOk.calls (k : Nat) (a0_0 : Int) (a0_1 : Int) (a0_2 : Int) (a0_3 : Int) (a0_4 : Int) (a0_5 : Int) (a0_6 : Int) (a0_7 : Int) (a0_8 : Int) (a0_9 : Int) (a0_10 : Int) (a0_11 : Int) (r : Bool) (w : World) (h : impl_MonMsgOk.f k a0_0 a0_1 a0_2 a0_3 a0_4 a0_5 a0_6 a0_7 a0_8 a0_9 a0_10 a0_11 = some r) :
    Calls Try.prog 42 #[.agg #[.int .i64 a0_0, .int .i64 a0_1, .int .i64 a0_2, .int .i64 a0_3, .int .i64 a0_4, .int .i64 a0_5, .int .i64 a0_6, .int .i64 a0_7, .int .i64 a0_8, .int .i64 a0_9, .int .i64 a0_10, .int .i64 a0_11]] w fun e w' => e = .returned (.bool r) ∧ Below w.heap.size w w' := by
  have hu78 := Try.underlying78
  have hu76 := Try.underlying76
  have hu33 := Try.underlying33
  have HB := Aside0.mk (Below.refl w.heap.size w)
  have H : ((impl_between.f a0_1 0 4).bind fun t176 => (if t176 = true then ((impl_between.f a0_2 0 4).bind fun t177 => (if t177 = true then ((impl_isDecidable.f a0_3).bind fun t178 => (if t178 = true then ((impl_ballotOk.f a0_4 a0_5).bind fun t179 => (if t179 = true then (impl_MonMsgOk.j0 k (a0_4 == 0 && (a0_5 == 0)) a0_0 a0_1 a0_2 a0_3 a0_4 a0_5 a0_6 a0_7 a0_8 a0_9 a0_10 a0_11) else (impl_MonMsgOk.j0 k true a0_0 a0_1 a0_2 a0_3 a0_4 a0_5 a0_6 a0_7 a0_8 a0_9 a0_10 a0_11))) else (impl_MonMsgOk.j0 k true a0_0 a0_1 a0_2 a0_3 a0_4 a0_5 a0_6 a0_7 a0_8 a0_9 a0_10 a0_11))) else (impl_MonMsgOk.j0 k true a0_0 a0_1 a0_2 a0_3 a0_4 a0_5 a0_6 a0_7 a0_8 a0_9 a0_10 a0_11))) else (impl_MonMsgOk.j0 k true a0_0 a0_1 a0_2 a0_3 a0_4 a0_5 a0_6 a0_7 a0_8 a0_9 a0_10 a0_11))) = some r := h
  clear h
  have HC2 := Aside0.mk H
  clear H
  go_enter Try.func42, Try.ntmps42
  go_upto_region 1 with (first | ((with_reducible refine gate_dst (N := 1) rfl ?_); refine box_event ?hg (N := 1) ?hd (cs := #[.int .i64 a0_0, .int .i64 a0_1, .int .i64 a0_2, .int .i64 a0_3, .int .i64 a0_4, .int .i64 a0_5, .int .i64 a0_6, .int .i64 a0_7, .int .i64 a0_8, .int .i64 a0_9, .int .i64 a0_10, .int .i64 a0_11]) (t := 78) ?hr ?_; (case hd => rfl); (case hg => rfl); (case hr => first | (go_simp; done) | (go_simp; rfl)); intro gb175 hg w3 hbox hb; have n0_ := Aside0.mk (below_step (by repeat (first | (with_reducible first | exact HB.out | apply below_alloc | apply pw_below_drewN | apply below_drew1) | exact HB.out)) hb); have n1_ := Aside0.mk (hbox); have n2_ := Aside0.mk ((by rw [hg]; exact (below_size (by repeat (first | (with_reducible first | exact HB.out | apply below_alloc | apply pw_below_drewN | apply below_drew1) | exact HB.out))) : w.heap.size ≤ gb175)); have n3_ := Aside0.mk ((by rw [hg]; exact (below_size (by repeat (first | (with_reducible first | exact HB.out | apply below_alloc | apply pw_below_drewN | apply below_drew1) | exact HB.out))) : w.heap.size ≤ gb175)); clear HB; have HB := n0_; have BK175 := n1_; have GW175 := n2_; have GE175 := n3_; clear n0_ n1_ n2_ n3_; clear hb hbox hg))
  (try simp only [Act.put, List.setIfInBounds_toArray, List.set_cons_zero, List.set_cons_succ])
  go_cut [30] (fun v30 wc => ∃ (kq : Nat) (x30_1 : Bool), v30 = .bool x30_1 ∧ Aside0 (impl_MonMsgOk.j0 kq x30_1 a0_0 a0_1 a0_2 a0_3 a0_4 a0_5 a0_6 a0_7 a0_8 a0_9 a0_10 a0_11 = some r) ∧ Aside0 (kq ≤ k) ∧ Aside0 (wc.heap[gb175]? = some (.cells #[.int .i64 a0_0, .int .i64 a0_1, .int .i64 a0_2, .int .i64 a0_3, .int .i64 a0_4, .int .i64 a0_5, .int .i64 a0_6, .int .i64 a0_7, .int .i64 a0_8, .int .i64 a0_9, .int .i64 a0_10, .int .i64 a0_11] 78 (0, 0))) ∧ Aside0 (Below w.heap.size w wc))
  case first =>
    have H := HC2.out
    clear HC2
    replace H := Option.bind_eq_some_iff.mp H
    obtain ⟨t176, A40, H⟩ := H
    replace H : (if t176 = true then ((impl_between.f a0_2 0 4).bind fun t177 => (if t177 = true then ((impl_isDecidable.f a0_3).bind fun t178 => (if t178 = true then ((impl_ballotOk.f a0_4 a0_5).bind fun t179 => (if t179 = true then (impl_MonMsgOk.j0 k (a0_4 == 0 && (a0_5 == 0)) a0_0 a0_1 a0_2 a0_3 a0_4 a0_5 a0_6 a0_7 a0_8 a0_9 a0_10 a0_11) else (impl_MonMsgOk.j0 k true a0_0 a0_1 a0_2 a0_3 a0_4 a0_5 a0_6 a0_7 a0_8 a0_9 a0_10 a0_11))) else (impl_MonMsgOk.j0 k true a0_0 a0_1 a0_2 a0_3 a0_4 a0_5 a0_6 a0_7 a0_8 a0_9 a0_10 a0_11))) else (impl_MonMsgOk.j0 k true a0_0 a0_1 a0_2 a0_3 a0_4 a0_5 a0_6 a0_7 a0_8 a0_9 a0_10 a0_11))) else (impl_MonMsgOk.j0 k true a0_0 a0_1 a0_2 a0_3 a0_4 a0_5 a0_6 a0_7 a0_8 a0_9 a0_10 a0_11)) = some r := H
    have A4 := Aside0.mk A40
    clear A40
    by_cases c5 : t176 = true
    · subst c5
      have H1 : ((impl_between.f a0_2 0 4).bind fun t177 => (if t177 = true then ((impl_isDecidable.f a0_3).bind fun t178 => (if t178 = true then ((impl_ballotOk.f a0_4 a0_5).bind fun t179 => (if t179 = true then (impl_MonMsgOk.j0 k (a0_4 == 0 && (a0_5 == 0)) a0_0 a0_1 a0_2 a0_3 a0_4 a0_5 a0_6 a0_7 a0_8 a0_9 a0_10 a0_11) else (impl_MonMsgOk.j0 k true a0_0 a0_1 a0_2 a0_3 a0_4 a0_5 a0_6 a0_7 a0_8 a0_9 a0_10 a0_11))) else (impl_MonMsgOk.j0 k true a0_0 a0_1 a0_2 a0_3 a0_4 a0_5 a0_6 a0_7 a0_8 a0_9 a0_10 a0_11))) else (impl_MonMsgOk.j0 k true a0_0 a0_1 a0_2 a0_3 a0_4 a0_5 a0_6 a0_7 a0_8 a0_9 a0_10 a0_11))) = some r := by rw [if_pos rfl] at H; exact H
      clear H
      have H := H1
      clear H1
      replace H := Option.bind_eq_some_iff.mp H
      obtain ⟨t177, A60, H⟩ := H
      replace H : (if t177 = true then ((impl_isDecidable.f a0_3).bind fun t178 => (if t178 = true then ((impl_ballotOk.f a0_4 a0_5).bind fun t179 => (if t179 = true then (impl_MonMsgOk.j0 k (a0_4 == 0 && (a0_5 == 0)) a0_0 a0_1 a0_2 a0_3 a0_4 a0_5 a0_6 a0_7 a0_8 a0_9 a0_10 a0_11) else (impl_MonMsgOk.j0 k true a0_0 a0_1 a0_2 a0_3 a0_4 a0_5 a0_6 a0_7 a0_8 a0_9 a0_10 a0_11))) else (impl_MonMsgOk.j0 k true a0_0 a0_1 a0_2 a0_3 a0_4 a0_5 a0_6 a0_7 a0_8 a0_9 a0_10 a0_11))) else (impl_MonMsgOk.j0 k true a0_0 a0_1 a0_2 a0_3 a0_4 a0_5 a0_6 a0_7 a0_8 a0_9 a0_10 a0_11)) = some r := H
      have A6 := Aside0.mk A60
      clear A60
      by_cases c7 : t177 = true
      · subst c7
        have H1 : ((impl_isDecidable.f a0_3).bind fun t178 => (if t178 = true then ((impl_ballotOk.f a0_4 a0_5).bind fun t179 => (if t179 = true then (impl_MonMsgOk.j0 k (a0_4 == 0 && (a0_5 == 0)) a0_0 a0_1 a0_2 a0_3 a0_4 a0_5 a0_6 a0_7 a0_8 a0_9 a0_10 a0_11) else (impl_MonMsgOk.j0 k true a0_0 a0_1 a0_2 a0_3 a0_4 a0_5 a0_6 a0_7 a0_8 a0_9 a0_10 a0_11))) else (impl_MonMsgOk.j0 k true a0_0 a0_1 a0_2 a0_3 a0_4 a0_5 a0_6 a0_7 a0_8 a0_9 a0_10 a0_11))) = some r := by rw [if_pos rfl] at H; exact H
        clear H
        have H := H1
        clear H1
        replace H := Option.bind_eq_some_iff.mp H
        obtain ⟨t178, A80, H⟩ := H
        replace H : (if t178 = true then ((impl_ballotOk.f a0_4 a0_5).bind fun t179 => (if t179 = true then (impl_MonMsgOk.j0 k (a0_4 == 0 && (a0_5 == 0)) a0_0 a0_1 a0_2 a0_3 a0_4 a0_5 a0_6 a0_7 a0_8 a0_9 a0_10 a0_11) else (impl_MonMsgOk.j0 k true a0_0 a0_1 a0_2 a0_3 a0_4 a0_5 a0_6 a0_7 a0_8 a0_9 a0_10 a0_11))) else (impl_MonMsgOk.j0 k true a0_0 a0_1 a0_2 a0_3 a0_4 a0_5 a0_6 a0_7 a0_8 a0_9 a0_10 a0_11)) = some r := H
        have A8 := Aside0.mk A80
        clear A80
        by_cases c9 : t178 = true
        · subst c9
          have H1 : ((impl_ballotOk.f a0_4 a0_5).bind fun t179 => (if t179 = true then (impl_MonMsgOk.j0 k (a0_4 == 0 && (a0_5 == 0)) a0_0 a0_1 a0_2 a0_3 a0_4 a0_5 a0_6 a0_7 a0_8 a0_9 a0_10 a0_11) else (impl_MonMsgOk.j0 k true a0_0 a0_1 a0_2 a0_3 a0_4 a0_5 a0_6 a0_7 a0_8 a0_9 a0_10 a0_11))) = some r := by rw [if_pos rfl] at H; exact H
          clear H
          have H := H1
          clear H1
          replace H := Option.bind_eq_some_iff.mp H
          obtain ⟨t179, A100, H⟩ := H
          replace H : (if t179 = true then (impl_MonMsgOk.j0 k (a0_4 == 0 && (a0_5 == 0)) a0_0 a0_1 a0_2 a0_3 a0_4 a0_5 a0_6 a0_7 a0_8 a0_9 a0_10 a0_11) else (impl_MonMsgOk.j0 k true a0_0 a0_1 a0_2 a0_3 a0_4 a0_5 a0_6 a0_7 a0_8 a0_9 a0_10 a0_11)) = some r := H
          have A10 := Aside0.mk A100
          clear A100
          by_cases c11 : t179 = true
          · subst c11
            have H1 : (impl_MonMsgOk.j0 k (a0_4 == 0 && (a0_5 == 0)) a0_0 a0_1 a0_2 a0_3 a0_4 a0_5 a0_6 a0_7 a0_8 a0_9 a0_10 a0_11) = some r := by rw [if_pos rfl] at H; exact H
            clear H
            have H := H1
            clear H1
            have H' := Aside0.mk H
            clear H
            have hcz12_0 : w3.cell? ⟨gb175, 0, none⟩ = some (.int .i64 a0_0) := (blk_cell BK175.out 0).trans rfl
            have hcz12_1 : w3.cell? ⟨gb175, 1, none⟩ = some (.int .i64 a0_1) := (blk_cell BK175.out 1).trans rfl
            have hcz12_2 : w3.cell? ⟨gb175, 2, none⟩ = some (.int .i64 a0_2) := (blk_cell BK175.out 2).trans rfl
            have hcz12_3 : w3.cell? ⟨gb175, 3, none⟩ = some (.int .i64 a0_3) := (blk_cell BK175.out 3).trans rfl
            have hcz12_4 : w3.cell? ⟨gb175, 4, none⟩ = some (.int .i64 a0_4) := (blk_cell BK175.out 4).trans rfl
            have hcz12_5 : w3.cell? ⟨gb175, 5, none⟩ = some (.int .i64 a0_5) := (blk_cell BK175.out 5).trans rfl
            have hcz12_6 : w3.cell? ⟨gb175, 6, none⟩ = some (.int .i64 a0_6) := (blk_cell BK175.out 6).trans rfl
            have hcz12_7 : w3.cell? ⟨gb175, 7, none⟩ = some (.int .i64 a0_7) := (blk_cell BK175.out 7).trans rfl
            have hcz12_8 : w3.cell? ⟨gb175, 8, none⟩ = some (.int .i64 a0_8) := (blk_cell BK175.out 8).trans rfl
            have hcz12_9 : w3.cell? ⟨gb175, 9, none⟩ = some (.int .i64 a0_9) := (blk_cell BK175.out 9).trans rfl
            have hcz12_10 : w3.cell? ⟨gb175, 10, none⟩ = some (.int .i64 a0_10) := (blk_cell BK175.out 10).trans rfl
            have hcz12_11 : w3.cell? ⟨gb175, 11, none⟩ = some (.int .i64 a0_11) := (blk_cell BK175.out 11).trans rfl
            have hfz12_0 := blk_frozen BK175.out 0
            have hfz12_1 := blk_frozen BK175.out 1
            have hfz12_2 := blk_frozen BK175.out 2
            have hfz12_3 := blk_frozen BK175.out 3
            have hfz12_4 := blk_frozen BK175.out 4
            have hfz12_5 := blk_frozen BK175.out 5
            have hfz12_6 := blk_frozen BK175.out 6
            have hfz12_7 := blk_frozen BK175.out 7
            have hfz12_8 := blk_frozen BK175.out 8
            have hfz12_9 := blk_frozen BK175.out 9
            have hfz12_10 := blk_frozen BK175.out 10
            have hfz12_11 := blk_frozen BK175.out 11
            go_wp2_with (first | ((with_reducible refine gate_callee (f := 48) rfl ?_); refine goesL_ (some 5) rfl rfl Try.func48 (by kernel_rfl) rfl #[.int .i64 a0_1, .int .i64 0, .int .i64 4] rfl (by (try simp only [List.map_toArray, List.map_cons, List.map_nil]); first | done | rfl | (simp only [List.length_drop, List.length_take]; rfl)) ?_; (with_reducible refine (impl_between.calls a0_1 0 4 true _ A4.out).mono ?_); rintro e w' ⟨rfl, ⟨nd, rfl⟩⟩; refine ⟨_, rfl, ?_⟩) | (go_at_call 48; (with_reducible refine (impl_between.calls a0_2 0 4 true _ A6.out).mono ?_); rintro e w' ⟨rfl, ⟨nd, rfl⟩⟩) | (go_at_call 70; (with_reducible refine (impl_isDecidable.calls a0_3 true _ A8.out).mono ?_); rintro e w' ⟨rfl, ⟨nd, rfl⟩⟩) | (go_at_call 71; (with_reducible refine (impl_ballotOk.calls a0_4 a0_5 true _ A10.out).mono ?_); rintro e w13 ⟨rfl, hb⟩; have n0_ := Aside0.mk (blk_below (g := gb175) (o := .cells #[.int .i64 a0_0, .int .i64 a0_1, .int .i64 a0_2, .int .i64 a0_3, .int .i64 a0_4, .int .i64 a0_5, .int .i64 a0_6, .int .i64 a0_7, .int .i64 a0_8, .int .i64 a0_9, .int .i64 a0_10, .int .i64 a0_11] 78 (0, 0)) (by (with_reducible repeat (first | refine blk_drewN ?_ _ | refine blk_drew ?_ | refine blk_alloc ?_ _)); exact BK175.out) hb); have n1_ := Aside0.mk (below_step (by repeat (first | (with_reducible first | exact HB.out | apply below_alloc | apply pw_below_drewN | apply below_drew1 | refine below_set ?_ GE175.out) | exact HB.out)) hb); clear BK175; clear HB; have BK175 := n0_; have HB := n1_; clear n0_ n1_; (try clear hb); (try clear hb2); (try clear hk); (try clear hi); have hcz14_0 : w13.cell? ⟨gb175, 0, none⟩ = some (.int .i64 a0_0) := (blk_cell BK175.out 0).trans rfl; have hcz14_1 : w13.cell? ⟨gb175, 1, none⟩ = some (.int .i64 a0_1) := (blk_cell BK175.out 1).trans rfl; have hcz14_2 : w13.cell? ⟨gb175, 2, none⟩ = some (.int .i64 a0_2) := (blk_cell BK175.out 2).trans rfl; have hcz14_3 : w13.cell? ⟨gb175, 3, none⟩ = some (.int .i64 a0_3) := (blk_cell BK175.out 3).trans rfl; have hcz14_4 : w13.cell? ⟨gb175, 4, none⟩ = some (.int .i64 a0_4) := (blk_cell BK175.out 4).trans rfl; have hcz14_5 : w13.cell? ⟨gb175, 5, none⟩ = some (.int .i64 a0_5) := (blk_cell BK175.out 5).trans rfl; have hcz14_6 : w13.cell? ⟨gb175, 6, none⟩ = some (.int .i64 a0_6) := (blk_cell BK175.out 6).trans rfl; have hcz14_7 : w13.cell? ⟨gb175, 7, none⟩ = some (.int .i64 a0_7) := (blk_cell BK175.out 7).trans rfl; have hcz14_8 : w13.cell? ⟨gb175, 8, none⟩ = some (.int .i64 a0_8) := (blk_cell BK175.out 8).trans rfl; have hcz14_9 : w13.cell? ⟨gb175, 9, none⟩ = some (.int .i64 a0_9) := (blk_cell BK175.out 9).trans rfl; have hcz14_10 : w13.cell? ⟨gb175, 10, none⟩ = some (.int .i64 a0_10) := (blk_cell BK175.out 10).trans rfl; have hcz14_11 : w13.cell? ⟨gb175, 11, none⟩ = some (.int .i64 a0_11) := (blk_cell BK175.out 11).trans rfl; have hfz14_0 := blk_frozen BK175.out 0; have hfz14_1 := blk_frozen BK175.out 1; have hfz14_2 := blk_frozen BK175.out 2; have hfz14_3 := blk_frozen BK175.out 3; have hfz14_4 := blk_frozen BK175.out 4; have hfz14_5 := blk_frozen BK175.out 5; have hfz14_6 := blk_frozen BK175.out 6; have hfz14_7 := blk_frozen BK175.out 7; have hfz14_8 := blk_frozen BK175.out 8; have hfz14_9 := blk_frozen BK175.out 9; have hfz14_10 := blk_frozen BK175.out 10; have hfz14_11 := blk_frozen BK175.out 11))
            go_meet
            case rel => exact ⟨_, ((a0_4 == 0 && (a0_5 == 0))), (by first | rfl | (simp; done) | (simp [*]; done)), H', ⟨by first | omega | exact Nat.le_refl _⟩, ⟨by (with_reducible repeat (first | refine blk_drewN ?_ _ | refine blk_drew ?_ | refine blk_alloc ?_ _)); exact BK175.out⟩, ⟨by repeat (first | (with_reducible first | exact HB.out | apply below_alloc | apply pw_below_drewN | apply below_drew1 | refine below_set ?_ GE175.out) | exact HB.out)⟩⟩
          · replace c11 := Bool.eq_false_iff.mpr c11
            subst c11
            have H1 : (impl_MonMsgOk.j0 k true a0_0 a0_1 a0_2 a0_3 a0_4 a0_5 a0_6 a0_7 a0_8 a0_9 a0_10 a0_11) = some r := by rw [if_neg (show ¬ (false = true) by decide)] at H; exact H
            clear H
            have H := H1
            clear H1
            have H' := Aside0.mk H
            clear H
            have hcz15_0 : w3.cell? ⟨gb175, 0, none⟩ = some (.int .i64 a0_0) := (blk_cell BK175.out 0).trans rfl
            have hcz15_1 : w3.cell? ⟨gb175, 1, none⟩ = some (.int .i64 a0_1) := (blk_cell BK175.out 1).trans rfl
            have hcz15_2 : w3.cell? ⟨gb175, 2, none⟩ = some (.int .i64 a0_2) := (blk_cell BK175.out 2).trans rfl
            have hcz15_3 : w3.cell? ⟨gb175, 3, none⟩ = some (.int .i64 a0_3) := (blk_cell BK175.out 3).trans rfl
            have hcz15_4 : w3.cell? ⟨gb175, 4, none⟩ = some (.int .i64 a0_4) := (blk_cell BK175.out 4).trans rfl
            have hcz15_5 : w3.cell? ⟨gb175, 5, none⟩ = some (.int .i64 a0_5) := (blk_cell BK175.out 5).trans rfl
            have hcz15_6 : w3.cell? ⟨gb175, 6, none⟩ = some (.int .i64 a0_6) := (blk_cell BK175.out 6).trans rfl
            have hcz15_7 : w3.cell? ⟨gb175, 7, none⟩ = some (.int .i64 a0_7) := (blk_cell BK175.out 7).trans rfl
            have hcz15_8 : w3.cell? ⟨gb175, 8, none⟩ = some (.int .i64 a0_8) := (blk_cell BK175.out 8).trans rfl
            have hcz15_9 : w3.cell? ⟨gb175, 9, none⟩ = some (.int .i64 a0_9) := (blk_cell BK175.out 9).trans rfl
            have hcz15_10 : w3.cell? ⟨gb175, 10, none⟩ = some (.int .i64 a0_10) := (blk_cell BK175.out 10).trans rfl
            have hcz15_11 : w3.cell? ⟨gb175, 11, none⟩ = some (.int .i64 a0_11) := (blk_cell BK175.out 11).trans rfl
            have hfz15_0 := blk_frozen BK175.out 0
            have hfz15_1 := blk_frozen BK175.out 1
            have hfz15_2 := blk_frozen BK175.out 2
            have hfz15_3 := blk_frozen BK175.out 3
            have hfz15_4 := blk_frozen BK175.out 4
            have hfz15_5 := blk_frozen BK175.out 5
            have hfz15_6 := blk_frozen BK175.out 6
            have hfz15_7 := blk_frozen BK175.out 7
            have hfz15_8 := blk_frozen BK175.out 8
            have hfz15_9 := blk_frozen BK175.out 9
            have hfz15_10 := blk_frozen BK175.out 10
            have hfz15_11 := blk_frozen BK175.out 11
            go_wp2_with (first | ((with_reducible refine gate_callee (f := 48) rfl ?_); refine goesL_ (some 5) rfl rfl Try.func48 (by kernel_rfl) rfl #[.int .i64 a0_1, .int .i64 0, .int .i64 4] rfl (by (try simp only [List.map_toArray, List.map_cons, List.map_nil]); first | done | rfl | (simp only [List.length_drop, List.length_take]; rfl)) ?_; (with_reducible refine (impl_between.calls a0_1 0 4 true _ A4.out).mono ?_); rintro e w' ⟨rfl, ⟨nd, rfl⟩⟩; refine ⟨_, rfl, ?_⟩) | (go_at_call 48; (with_reducible refine (impl_between.calls a0_2 0 4 true _ A6.out).mono ?_); rintro e w' ⟨rfl, ⟨nd, rfl⟩⟩) | (go_at_call 70; (with_reducible refine (impl_isDecidable.calls a0_3 true _ A8.out).mono ?_); rintro e w' ⟨rfl, ⟨nd, rfl⟩⟩) | (go_at_call 71; (with_reducible refine (impl_ballotOk.calls a0_4 a0_5 false _ A10.out).mono ?_); rintro e w16 ⟨rfl, hb⟩; have n0_ := Aside0.mk (blk_below (g := gb175) (o := .cells #[.int .i64 a0_0, .int .i64 a0_1, .int .i64 a0_2, .int .i64 a0_3, .int .i64 a0_4, .int .i64 a0_5, .int .i64 a0_6, .int .i64 a0_7, .int .i64 a0_8, .int .i64 a0_9, .int .i64 a0_10, .int .i64 a0_11] 78 (0, 0)) (by (with_reducible repeat (first | refine blk_drewN ?_ _ | refine blk_drew ?_ | refine blk_alloc ?_ _)); exact BK175.out) hb); have n1_ := Aside0.mk (below_step (by repeat (first | (with_reducible first | exact HB.out | apply below_alloc | apply pw_below_drewN | apply below_drew1 | refine below_set ?_ GE175.out) | exact HB.out)) hb); clear BK175; clear HB; have BK175 := n0_; have HB := n1_; clear n0_ n1_; (try clear hb); (try clear hb2); (try clear hk); (try clear hi)))
            go_meet
            case rel => exact ⟨_, (true), (by first | rfl | (simp; done) | (simp [*]; done)), H', ⟨by first | omega | exact Nat.le_refl _⟩, ⟨by (with_reducible repeat (first | refine blk_drewN ?_ _ | refine blk_drew ?_ | refine blk_alloc ?_ _)); exact BK175.out⟩, ⟨by repeat (first | (with_reducible first | exact HB.out | apply below_alloc | apply pw_below_drewN | apply below_drew1 | refine below_set ?_ GE175.out) | exact HB.out)⟩⟩
        · replace c9 := Bool.eq_false_iff.mpr c9
          subst c9
          have H1 : (impl_MonMsgOk.j0 k true a0_0 a0_1 a0_2 a0_3 a0_4 a0_5 a0_6 a0_7 a0_8 a0_9 a0_10 a0_11) = some r := by rw [if_neg (show ¬ (false = true) by decide)] at H; exact H
          clear H
          have H := H1
          clear H1
          have H' := Aside0.mk H
          clear H
          have hcz17_0 : w3.cell? ⟨gb175, 0, none⟩ = some (.int .i64 a0_0) := (blk_cell BK175.out 0).trans rfl
          have hcz17_1 : w3.cell? ⟨gb175, 1, none⟩ = some (.int .i64 a0_1) := (blk_cell BK175.out 1).trans rfl
          have hcz17_2 : w3.cell? ⟨gb175, 2, none⟩ = some (.int .i64 a0_2) := (blk_cell BK175.out 2).trans rfl
          have hcz17_3 : w3.cell? ⟨gb175, 3, none⟩ = some (.int .i64 a0_3) := (blk_cell BK175.out 3).trans rfl
          have hcz17_4 : w3.cell? ⟨gb175, 4, none⟩ = some (.int .i64 a0_4) := (blk_cell BK175.out 4).trans rfl
          have hcz17_5 : w3.cell? ⟨gb175, 5, none⟩ = some (.int .i64 a0_5) := (blk_cell BK175.out 5).trans rfl
          have hcz17_6 : w3.cell? ⟨gb175, 6, none⟩ = some (.int .i64 a0_6) := (blk_cell BK175.out 6).trans rfl
          have hcz17_7 : w3.cell? ⟨gb175, 7, none⟩ = some (.int .i64 a0_7) := (blk_cell BK175.out 7).trans rfl
          have hcz17_8 : w3.cell? ⟨gb175, 8, none⟩ = some (.int .i64 a0_8) := (blk_cell BK175.out 8).trans rfl
          have hcz17_9 : w3.cell? ⟨gb175, 9, none⟩ = some (.int .i64 a0_9) := (blk_cell BK175.out 9).trans rfl
          have hcz17_10 : w3.cell? ⟨gb175, 10, none⟩ = some (.int .i64 a0_10) := (blk_cell BK175.out 10).trans rfl
          have hcz17_11 : w3.cell? ⟨gb175, 11, none⟩ = some (.int .i64 a0_11) := (blk_cell BK175.out 11).trans rfl
          have hfz17_0 := blk_frozen BK175.out 0
          have hfz17_1 := blk_frozen BK175.out 1
          have hfz17_2 := blk_frozen BK175.out 2
          have hfz17_3 := blk_frozen BK175.out 3
          have hfz17_4 := blk_frozen BK175.out 4
          have hfz17_5 := blk_frozen BK175.out 5
          have hfz17_6 := blk_frozen BK175.out 6
          have hfz17_7 := blk_frozen BK175.out 7
          have hfz17_8 := blk_frozen BK175.out 8
          have hfz17_9 := blk_frozen BK175.out 9
          have hfz17_10 := blk_frozen BK175.out 10
          have hfz17_11 := blk_frozen BK175.out 11
          go_wp2_with (first | ((with_reducible refine gate_callee (f := 48) rfl ?_); refine goesL_ (some 5) rfl rfl Try.func48 (by kernel_rfl) rfl #[.int .i64 a0_1, .int .i64 0, .int .i64 4] rfl (by (try simp only [List.map_toArray, List.map_cons, List.map_nil]); first | done | rfl | (simp only [List.length_drop, List.length_take]; rfl)) ?_; (with_reducible refine (impl_between.calls a0_1 0 4 true _ A4.out).mono ?_); rintro e w' ⟨rfl, ⟨nd, rfl⟩⟩; refine ⟨_, rfl, ?_⟩) | (go_at_call 48; (with_reducible refine (impl_between.calls a0_2 0 4 true _ A6.out).mono ?_); rintro e w' ⟨rfl, ⟨nd, rfl⟩⟩) | (go_at_call 70; (with_reducible refine (impl_isDecidable.calls a0_3 false _ A8.out).mono ?_); rintro e w' ⟨rfl, ⟨nd, rfl⟩⟩))
          go_meet
          case rel => exact ⟨_, (true), (by first | rfl | (simp; done) | (simp [*]; done)), H', ⟨by first | omega | exact Nat.le_refl _⟩, ⟨by (with_reducible repeat (first | refine blk_drewN ?_ _ | refine blk_drew ?_ | refine blk_alloc ?_ _)); exact BK175.out⟩, ⟨by repeat (first | (with_reducible first | exact HB.out | apply below_alloc | apply pw_below_drewN | apply below_drew1 | refine below_set ?_ GE175.out) | exact HB.out)⟩⟩
      · replace c7 := Bool.eq_false_iff.mpr c7
        subst c7
        have H1 : (impl_MonMsgOk.j0 k true a0_0 a0_1 a0_2 a0_3 a0_4 a0_5 a0_6 a0_7 a0_8 a0_9 a0_10 a0_11) = some r := by rw [if_neg (show ¬ (false = true) by decide)] at H; exact H
        clear H
        have H := H1
        clear H1
        have H' := Aside0.mk H
        clear H
        have hcz18_0 : w3.cell? ⟨gb175, 0, none⟩ = some (.int .i64 a0_0) := (blk_cell BK175.out 0).trans rfl
        have hcz18_1 : w3.cell? ⟨gb175, 1, none⟩ = some (.int .i64 a0_1) := (blk_cell BK175.out 1).trans rfl
        have hcz18_2 : w3.cell? ⟨gb175, 2, none⟩ = some (.int .i64 a0_2) := (blk_cell BK175.out 2).trans rfl
        have hcz18_3 : w3.cell? ⟨gb175, 3, none⟩ = some (.int .i64 a0_3) := (blk_cell BK175.out 3).trans rfl
        have hcz18_4 : w3.cell? ⟨gb175, 4, none⟩ = some (.int .i64 a0_4) := (blk_cell BK175.out 4).trans rfl
        have hcz18_5 : w3.cell? ⟨gb175, 5, none⟩ = some (.int .i64 a0_5) := (blk_cell BK175.out 5).trans rfl
        have hcz18_6 : w3.cell? ⟨gb175, 6, none⟩ = some (.int .i64 a0_6) := (blk_cell BK175.out 6).trans rfl
        have hcz18_7 : w3.cell? ⟨gb175, 7, none⟩ = some (.int .i64 a0_7) := (blk_cell BK175.out 7).trans rfl
        have hcz18_8 : w3.cell? ⟨gb175, 8, none⟩ = some (.int .i64 a0_8) := (blk_cell BK175.out 8).trans rfl
        have hcz18_9 : w3.cell? ⟨gb175, 9, none⟩ = some (.int .i64 a0_9) := (blk_cell BK175.out 9).trans rfl
        have hcz18_10 : w3.cell? ⟨gb175, 10, none⟩ = some (.int .i64 a0_10) := (blk_cell BK175.out 10).trans rfl
        have hcz18_11 : w3.cell? ⟨gb175, 11, none⟩ = some (.int .i64 a0_11) := (blk_cell BK175.out 11).trans rfl
        have hfz18_0 := blk_frozen BK175.out 0
        have hfz18_1 := blk_frozen BK175.out 1
        have hfz18_2 := blk_frozen BK175.out 2
        have hfz18_3 := blk_frozen BK175.out 3
        have hfz18_4 := blk_frozen BK175.out 4
        have hfz18_5 := blk_frozen BK175.out 5
        have hfz18_6 := blk_frozen BK175.out 6
        have hfz18_7 := blk_frozen BK175.out 7
        have hfz18_8 := blk_frozen BK175.out 8
        have hfz18_9 := blk_frozen BK175.out 9
        have hfz18_10 := blk_frozen BK175.out 10
        have hfz18_11 := blk_frozen BK175.out 11
        go_wp2_with (first | ((with_reducible refine gate_callee (f := 48) rfl ?_); refine goesL_ (some 5) rfl rfl Try.func48 (by kernel_rfl) rfl #[.int .i64 a0_1, .int .i64 0, .int .i64 4] rfl (by (try simp only [List.map_toArray, List.map_cons, List.map_nil]); first | done | rfl | (simp only [List.length_drop, List.length_take]; rfl)) ?_; (with_reducible refine (impl_between.calls a0_1 0 4 true _ A4.out).mono ?_); rintro e w' ⟨rfl, ⟨nd, rfl⟩⟩; refine ⟨_, rfl, ?_⟩) | (go_at_call 48; (with_reducible refine (impl_between.calls a0_2 0 4 false _ A6.out).mono ?_); rintro e w' ⟨rfl, ⟨nd, rfl⟩⟩))
        go_meet
        case rel => exact ⟨_, (true), (by first | rfl | (simp; done) | (simp [*]; done)), H', ⟨by first | omega | exact Nat.le_refl _⟩, ⟨by (with_reducible repeat (first | refine blk_drewN ?_ _ | refine blk_drew ?_ | refine blk_alloc ?_ _)); exact BK175.out⟩, ⟨by repeat (first | (with_reducible first | exact HB.out | apply below_alloc | apply pw_below_drewN | apply below_drew1 | refine below_set ?_ GE175.out) | exact HB.out)⟩⟩
    · replace c5 := Bool.eq_false_iff.mpr c5
      subst c5
      have H1 : (impl_MonMsgOk.j0 k true a0_0 a0_1 a0_2 a0_3 a0_4 a0_5 a0_6 a0_7 a0_8 a0_9 a0_10 a0_11) = some r := by rw [if_neg (show ¬ (false = true) by decide)] at H; exact H
      clear H
      have H := H1
      clear H1
      have H' := Aside0.mk H
      clear H
      have hcz19_0 : w3.cell? ⟨gb175, 0, none⟩ = some (.int .i64 a0_0) := (blk_cell BK175.out 0).trans rfl
      have hcz19_1 : w3.cell? ⟨gb175, 1, none⟩ = some (.int .i64 a0_1) := (blk_cell BK175.out 1).trans rfl
      have hcz19_2 : w3.cell? ⟨gb175, 2, none⟩ = some (.int .i64 a0_2) := (blk_cell BK175.out 2).trans rfl
      have hcz19_3 : w3.cell? ⟨gb175, 3, none⟩ = some (.int .i64 a0_3) := (blk_cell BK175.out 3).trans rfl
      have hcz19_4 : w3.cell? ⟨gb175, 4, none⟩ = some (.int .i64 a0_4) := (blk_cell BK175.out 4).trans rfl
      have hcz19_5 : w3.cell? ⟨gb175, 5, none⟩ = some (.int .i64 a0_5) := (blk_cell BK175.out 5).trans rfl
      have hcz19_6 : w3.cell? ⟨gb175, 6, none⟩ = some (.int .i64 a0_6) := (blk_cell BK175.out 6).trans rfl
      have hcz19_7 : w3.cell? ⟨gb175, 7, none⟩ = some (.int .i64 a0_7) := (blk_cell BK175.out 7).trans rfl
      have hcz19_8 : w3.cell? ⟨gb175, 8, none⟩ = some (.int .i64 a0_8) := (blk_cell BK175.out 8).trans rfl
      have hcz19_9 : w3.cell? ⟨gb175, 9, none⟩ = some (.int .i64 a0_9) := (blk_cell BK175.out 9).trans rfl
      have hcz19_10 : w3.cell? ⟨gb175, 10, none⟩ = some (.int .i64 a0_10) := (blk_cell BK175.out 10).trans rfl
      have hcz19_11 : w3.cell? ⟨gb175, 11, none⟩ = some (.int .i64 a0_11) := (blk_cell BK175.out 11).trans rfl
      have hfz19_0 := blk_frozen BK175.out 0
      have hfz19_1 := blk_frozen BK175.out 1
      have hfz19_2 := blk_frozen BK175.out 2
      have hfz19_3 := blk_frozen BK175.out 3
      have hfz19_4 := blk_frozen BK175.out 4
      have hfz19_5 := blk_frozen BK175.out 5
      have hfz19_6 := blk_frozen BK175.out 6
      have hfz19_7 := blk_frozen BK175.out 7
      have hfz19_8 := blk_frozen BK175.out 8
      have hfz19_9 := blk_frozen BK175.out 9
      have hfz19_10 := blk_frozen BK175.out 10
      have hfz19_11 := blk_frozen BK175.out 11
      go_wp2_with (first | ((with_reducible refine gate_callee (f := 48) rfl ?_); refine goesL_ (some 5) rfl rfl Try.func48 (by kernel_rfl) rfl #[.int .i64 a0_1, .int .i64 0, .int .i64 4] rfl (by (try simp only [List.map_toArray, List.map_cons, List.map_nil]); first | done | rfl | (simp only [List.length_drop, List.length_take]; rfl)) ?_; (with_reducible refine (impl_between.calls a0_1 0 4 false _ A4.out).mono ?_); rintro e w' ⟨rfl, ⟨nd, rfl⟩⟩; refine ⟨_, rfl, ?_⟩))
      go_meet
      case rel => exact ⟨_, (true), (by first | rfl | (simp; done) | (simp [*]; done)), H', ⟨by first | omega | exact Nat.le_refl _⟩, ⟨by (with_reducible repeat (first | refine blk_drewN ?_ _ | refine blk_drew ?_ | refine blk_alloc ?_ _)); exact BK175.out⟩, ⟨by repeat (first | (with_reducible first | exact HB.out | apply below_alloc | apply pw_below_drewN | apply below_drew1 | refine below_set ?_ GE175.out) | exact HB.out)⟩⟩
  case rest =>
    clear HC2
    try clear c1
    try clear p2
    try clear c4
    try clear c5
    try clear c7
    try clear c9
    try clear c11
    try clear hcz12_0
    try clear hcz12_1
    try clear hcz12_10
    try clear hcz12_11
    try clear hcz12_2
    try clear hcz12_3
    try clear hcz12_4
    try clear hcz12_5
    try clear hcz12_6
    try clear hcz12_7
    try clear hcz12_8
    try clear hcz12_9
    try clear hcz14_0
    try clear hcz14_1
    try clear hcz14_10
    try clear hcz14_11
    try clear hcz14_2
    try clear hcz14_3
    try clear hcz14_4
    try clear hcz14_5
    try clear hcz14_6
    try clear hcz14_7
    try clear hcz14_8
    try clear hcz14_9
    try clear hcz15_0
    try clear hcz15_1
    try clear hcz15_10
    try clear hcz15_11
    try clear hcz15_2
    try clear hcz15_3
    try clear hcz15_4
    try clear hcz15_5
    try clear hcz15_6
    try clear hcz15_7
    try clear hcz15_8
    try clear hcz15_9
    try clear hcz17_0
    try clear hcz17_1
    try clear hcz17_10
    try clear hcz17_11
    try clear hcz17_2
    try clear hcz17_3
    try clear hcz17_4
    try clear hcz17_5
    try clear hcz17_6
    try clear hcz17_7
    try clear hcz17_8
    try clear hcz17_9
    try clear hcz18_0
    try clear hcz18_1
    try clear hcz18_10
    try clear hcz18_11
    try clear hcz18_2
    try clear hcz18_3
    try clear hcz18_4
    try clear hcz18_5
    try clear hcz18_6
    try clear hcz18_7
    try clear hcz18_8
    try clear hcz18_9
    try clear hcz19_0
    try clear hcz19_1
    try clear hcz19_10
    try clear hcz19_11
    try clear hcz19_2
    try clear hcz19_3
    try clear hcz19_4
    try clear hcz19_5
    try clear hcz19_6
    try clear hcz19_7
    try clear hcz19_8
    try clear hcz19_9
    try clear hfz12_0
    try clear hfz12_1
    try clear hfz12_10
    try clear hfz12_11
    try clear hfz12_2
    try clear hfz12_3
    try clear hfz12_4
    try clear hfz12_5
    try clear hfz12_6
    try clear hfz12_7
    try clear hfz12_8
    try clear hfz12_9
    try clear hfz14_0
    try clear hfz14_1
    try clear hfz14_10
    try clear hfz14_11
    try clear hfz14_2
    try clear hfz14_3
    try clear hfz14_4
    try clear hfz14_5
    try clear hfz14_6
    try clear hfz14_7
    try clear hfz14_8
    try clear hfz14_9
    try clear hfz15_0
    try clear hfz15_1
    try clear hfz15_10
    try clear hfz15_11
    try clear hfz15_2
    try clear hfz15_3
    try clear hfz15_4
    try clear hfz15_5
    try clear hfz15_6
    try clear hfz15_7
    try clear hfz15_8
    try clear hfz15_9
    try clear hfz17_0
    try clear hfz17_1
    try clear hfz17_10
    try clear hfz17_11
    try clear hfz17_2
    try clear hfz17_3
    try clear hfz17_4
    try clear hfz17_5
    try clear hfz17_6
    try clear hfz17_7
    try clear hfz17_8
    try clear hfz17_9
    try clear hfz18_0
    try clear hfz18_1
    try clear hfz18_10
    try clear hfz18_11
    try clear hfz18_2
    try clear hfz18_3
    try clear hfz18_4
    try clear hfz18_5
    try clear hfz18_6
    try clear hfz18_7
    try clear hfz18_8
    try clear hfz18_9
    try clear hfz19_0
    try clear hfz19_1
    try clear hfz19_10
    try clear hfz19_11
    try clear hfz19_2
    try clear hfz19_3
    try clear hfz19_4
    try clear hfz19_5
    try clear hfz19_6
    try clear hfz19_7
    try clear hfz19_8
    try clear hfz19_9
    obtain ⟨kq, x30_1, rfl, HA, HJ1, BK175, HB⟩ := hcut
    cases kq with
    | zero => exact absurd HA.out (by simp [impl_MonMsgOk.j0])
    | succ kj1 =>
      have H := HA.out
      clear HA
      simp only [impl_MonMsgOk.j0] at H
      by_cases c20 : x30_1 = true
      · subst c20
        have H1 : (some false) = some r := by rw [if_pos rfl] at H; exact H
        clear H
        have H := H1
        clear H1
        obtain rfl := Option.some.inj H
        go_wp2
        go_ret
        exact ⟨by first | rfl | (simp [errW_none, errW_some] <;> rfl) | (simp [*, errW_none, errW_some] <;> rfl), by repeat (first | (with_reducible first | exact HB.out | apply below_alloc | apply pw_below_drewN | apply below_drew1 | refine below_set ?_ GE175.out) | exact HB.out)⟩
      · replace c20 := Bool.eq_false_iff.mpr c20
        subst c20
        have H1 : (if a0_0 = 1 then (impl_MonMsgOk.j1 kj1 a0_0 (a0_0 == 1) a0_0 a0_1 a0_2 a0_3 a0_4 a0_5 a0_6 a0_7 a0_8 a0_9 a0_10 a0_11) else (impl_MonMsgOk.j1 kj1 a0_0 (a0_0 == 4) a0_0 a0_1 a0_2 a0_3 a0_4 a0_5 a0_6 a0_7 a0_8 a0_9 a0_10 a0_11)) = some r := by rw [if_neg (show ¬ (false = true) by decide)] at H; exact H
        clear H
        have H := H1
        clear H1
        have HC21 := Aside0.mk H
        clear H
        have hcz22_0 : wc.cell? ⟨gb175, 0, none⟩ = some (.int .i64 a0_0) := (blk_cell BK175.out 0).trans rfl
        have hcz22_1 : wc.cell? ⟨gb175, 1, none⟩ = some (.int .i64 a0_1) := (blk_cell BK175.out 1).trans rfl
        have hcz22_2 : wc.cell? ⟨gb175, 2, none⟩ = some (.int .i64 a0_2) := (blk_cell BK175.out 2).trans rfl
        have hcz22_3 : wc.cell? ⟨gb175, 3, none⟩ = some (.int .i64 a0_3) := (blk_cell BK175.out 3).trans rfl
        have hcz22_4 : wc.cell? ⟨gb175, 4, none⟩ = some (.int .i64 a0_4) := (blk_cell BK175.out 4).trans rfl
        have hcz22_5 : wc.cell? ⟨gb175, 5, none⟩ = some (.int .i64 a0_5) := (blk_cell BK175.out 5).trans rfl
        have hcz22_6 : wc.cell? ⟨gb175, 6, none⟩ = some (.int .i64 a0_6) := (blk_cell BK175.out 6).trans rfl
        have hcz22_7 : wc.cell? ⟨gb175, 7, none⟩ = some (.int .i64 a0_7) := (blk_cell BK175.out 7).trans rfl
        have hcz22_8 : wc.cell? ⟨gb175, 8, none⟩ = some (.int .i64 a0_8) := (blk_cell BK175.out 8).trans rfl
        have hcz22_9 : wc.cell? ⟨gb175, 9, none⟩ = some (.int .i64 a0_9) := (blk_cell BK175.out 9).trans rfl
        have hcz22_10 : wc.cell? ⟨gb175, 10, none⟩ = some (.int .i64 a0_10) := (blk_cell BK175.out 10).trans rfl
        have hcz22_11 : wc.cell? ⟨gb175, 11, none⟩ = some (.int .i64 a0_11) := (blk_cell BK175.out 11).trans rfl
        have hfz22_0 := blk_frozen BK175.out 0
        have hfz22_1 := blk_frozen BK175.out 1
        have hfz22_2 := blk_frozen BK175.out 2
        have hfz22_3 := blk_frozen BK175.out 3
        have hfz22_4 := blk_frozen BK175.out 4
        have hfz22_5 := blk_frozen BK175.out 5
        have hfz22_6 := blk_frozen BK175.out 6
        have hfz22_7 := blk_frozen BK175.out 7
        have hfz22_8 := blk_frozen BK175.out 8
        have hfz22_9 := blk_frozen BK175.out 9
        have hfz22_10 := blk_frozen BK175.out 10
        have hfz22_11 := blk_frozen BK175.out 11
        go_upto_if 33 with (fail)
        go_cut [33] (fun v33 wc => ∃ (kq : Nat) (x33_20 : Bool), v33 = .bool x33_20 ∧ Aside0 (impl_MonMsgOk.j1 kq a0_0 x33_20 a0_0 a0_1 a0_2 a0_3 a0_4 a0_5 a0_6 a0_7 a0_8 a0_9 a0_10 a0_11 = some r) ∧ Aside0 (kq ≤ kj1) ∧ Aside0 (wc.heap[gb175]? = some (.cells #[.int .i64 a0_0, .int .i64 a0_1, .int .i64 a0_2, .int .i64 a0_3, .int .i64 a0_4, .int .i64 a0_5, .int .i64 a0_6, .int .i64 a0_7, .int .i64 a0_8, .int .i64 a0_9, .int .i64 a0_10, .int .i64 a0_11] 78 (0, 0))) ∧ Aside0 (Below w.heap.size w wc))
        case first =>
          have H := HC21.out
          clear HC21
          by_cases c23 : a0_0 = 1
          · rw [if_pos c23] at H
            have c23b0 : (a0_0 == 1) = true := beq_iff_eq.mpr c23
            have c23b1 : (a0_0 != 1) = false := bne_eq_false_iff_eq.mpr c23
            clear c23
            (first | rw [c23b0] | (simp only [i64_w, i32_w]; rw [c23b0]) | skip)
            have H' := Aside0.mk H
            clear H
            go_wp2
            go_meet
            case rel => exact ⟨_, ((a0_0 == 1)), (by first | rfl | (simp; done) | (simp [*]; done)), H', ⟨by have := HJ1.out; first | omega | exact Nat.le_refl _⟩, ⟨by (with_reducible repeat (first | refine blk_drewN ?_ _ | refine blk_drew ?_ | refine blk_alloc ?_ _)); exact BK175.out⟩, ⟨by repeat (first | (with_reducible first | exact HB.out | apply below_alloc | apply pw_below_drewN | apply below_drew1 | refine below_set ?_ GE175.out) | exact HB.out)⟩⟩
          · rw [if_neg c23] at H
            have c23b0 : (a0_0 == 1) = false := beq_eq_false_iff_ne.mpr c23
            have c23b1 : (a0_0 != 1) = true := bne_iff_ne.mpr c23
            (first | rw [c23b0] | (simp only [i64_w, i32_w]; rw [c23b0]) | skip)
            have H' := Aside0.mk H
            clear H
            go_wp2
            go_meet
            case rel => exact ⟨_, ((a0_0 == 4)), (by first | rfl | (simp; done) | (simp [*]; done)), H', ⟨by have := HJ1.out; first | omega | exact Nat.le_refl _⟩, ⟨by (with_reducible repeat (first | refine blk_drewN ?_ _ | refine blk_drew ?_ | refine blk_alloc ?_ _)); exact BK175.out⟩, ⟨by repeat (first | (with_reducible first | exact HB.out | apply below_alloc | apply pw_below_drewN | apply below_drew1 | refine below_set ?_ GE175.out) | exact HB.out)⟩⟩
        case rest =>
          clear HC21
          try clear c1
          try clear c2
          try clear p2
          try clear c4
          try clear c5
          try clear c7
          try clear c9
          try clear c11
          try clear c20
          try clear c23
          try clear c23b0
          try clear c23b1
          try clear hcz12_0
          try clear hcz12_1
          try clear hcz12_10
          try clear hcz12_11
          try clear hcz12_2
          try clear hcz12_3
          try clear hcz12_4
          try clear hcz12_5
          try clear hcz12_6
          try clear hcz12_7
          try clear hcz12_8
          try clear hcz12_9
          try clear hcz14_0
          try clear hcz14_1
          try clear hcz14_10
          try clear hcz14_11
          try clear hcz14_2
          try clear hcz14_3
          try clear hcz14_4
          try clear hcz14_5
          try clear hcz14_6
          try clear hcz14_7
          try clear hcz14_8
          try clear hcz14_9
          try clear hcz15_0
          try clear hcz15_1
          try clear hcz15_10
          try clear hcz15_11
          try clear hcz15_2
          try clear hcz15_3
          try clear hcz15_4
          try clear hcz15_5
          try clear hcz15_6
          try clear hcz15_7
          try clear hcz15_8
          try clear hcz15_9
          try clear hcz17_0
          try clear hcz17_1
          try clear hcz17_10
          try clear hcz17_11
          try clear hcz17_2
          try clear hcz17_3
          try clear hcz17_4
          try clear hcz17_5
          try clear hcz17_6
          try clear hcz17_7
          try clear hcz17_8
          try clear hcz17_9
          try clear hcz18_0
          try clear hcz18_1
          try clear hcz18_10
          try clear hcz18_11
          try clear hcz18_2
          try clear hcz18_3
          try clear hcz18_4
          try clear hcz18_5
          try clear hcz18_6
          try clear hcz18_7
          try clear hcz18_8
          try clear hcz18_9
          try clear hcz19_0
          try clear hcz19_1
          try clear hcz19_10
          try clear hcz19_11
          try clear hcz19_2
          try clear hcz19_3
          try clear hcz19_4
          try clear hcz19_5
          try clear hcz19_6
          try clear hcz19_7
          try clear hcz19_8
          try clear hcz19_9
          try clear hcz22_0
          try clear hcz22_1
          try clear hcz22_10
          try clear hcz22_11
          try clear hcz22_2
          try clear hcz22_3
          try clear hcz22_4
          try clear hcz22_5
          try clear hcz22_6
          try clear hcz22_7
          try clear hcz22_8
          try clear hcz22_9
          try clear hfz12_0
          try clear hfz12_1
          try clear hfz12_10
          try clear hfz12_11
          try clear hfz12_2
          try clear hfz12_3
          try clear hfz12_4
          try clear hfz12_5
          try clear hfz12_6
          try clear hfz12_7
          try clear hfz12_8
          try clear hfz12_9
          try clear hfz14_0
          try clear hfz14_1
          try clear hfz14_10
          try clear hfz14_11
          try clear hfz14_2
          try clear hfz14_3
          try clear hfz14_4
          try clear hfz14_5
          try clear hfz14_6
          try clear hfz14_7
          try clear hfz14_8
          try clear hfz14_9
          try clear hfz15_0
          try clear hfz15_1
          try clear hfz15_10
          try clear hfz15_11
          try clear hfz15_2
          try clear hfz15_3
          try clear hfz15_4
          try clear hfz15_5
          try clear hfz15_6
          try clear hfz15_7
          try clear hfz15_8
          try clear hfz15_9
          try clear hfz17_0
          try clear hfz17_1
          try clear hfz17_10
          try clear hfz17_11
          try clear hfz17_2
          try clear hfz17_3
          try clear hfz17_4
          try clear hfz17_5
          try clear hfz17_6
          try clear hfz17_7
          try clear hfz17_8
          try clear hfz17_9
          try clear hfz18_0
          try clear hfz18_1
          try clear hfz18_10
          try clear hfz18_11
          try clear hfz18_2
          try clear hfz18_3
          try clear hfz18_4
          try clear hfz18_5
          try clear hfz18_6
          try clear hfz18_7
          try clear hfz18_8
          try clear hfz18_9
          try clear hfz19_0
          try clear hfz19_1
          try clear hfz19_10
          try clear hfz19_11
          try clear hfz19_2
          try clear hfz19_3
          try clear hfz19_4
          try clear hfz19_5
          try clear hfz19_6
          try clear hfz19_7
          try clear hfz19_8
          try clear hfz19_9
          try clear hfz22_0
          try clear hfz22_1
          try clear hfz22_10
          try clear hfz22_11
          try clear hfz22_2
          try clear hfz22_3
          try clear hfz22_4
          try clear hfz22_5
          try clear hfz22_6
          try clear hfz22_7
          try clear hfz22_8
          try clear hfz22_9
          try clear p2
          obtain ⟨kq, x33_20, rfl, HA, HJ20, BK175, HB⟩ := hcut
          cases kq with
          | zero => exact absurd HA.out (by simp [impl_MonMsgOk.j1])
          | succ kj20 =>
            have H := HA.out
            clear HA
            simp only [impl_MonMsgOk.j1] at H
            by_cases c24 : x33_20 = true
            · subst c24
              have H1 : (if (a0_6 == 0 && (a0_7 == 0)) = true then (some (a0_8 == 0 && (a0_9 == 0 && (a0_10 == 0 && (a0_11 == 0))))) else (some false)) = some r := by rw [if_pos rfl] at H; exact H
              clear H
              have H := H1
              clear H1
              by_cases c25 : (a0_6 == 0 && (a0_7 == 0)) = true
              · rw [if_pos c25] at H
                have c25b0 : (a0_6 == 0 && (a0_7 == 0)) = true := c25
                (try (have c25b1 : decide (a0_6 = 0 && (a0_7 == 0)) = true := by simpa using c25))
                (try (have c25b2 : (a0_6 == 0 && (a0_7 == 0)) = true := by simpa using c25))
                clear c25
                obtain rfl := Option.some.inj H
                have hcz26_0 : wc.cell? ⟨gb175, 0, none⟩ = some (.int .i64 a0_0) := (blk_cell BK175.out 0).trans rfl
                have hcz26_1 : wc.cell? ⟨gb175, 1, none⟩ = some (.int .i64 a0_1) := (blk_cell BK175.out 1).trans rfl
                have hcz26_2 : wc.cell? ⟨gb175, 2, none⟩ = some (.int .i64 a0_2) := (blk_cell BK175.out 2).trans rfl
                have hcz26_3 : wc.cell? ⟨gb175, 3, none⟩ = some (.int .i64 a0_3) := (blk_cell BK175.out 3).trans rfl
                have hcz26_4 : wc.cell? ⟨gb175, 4, none⟩ = some (.int .i64 a0_4) := (blk_cell BK175.out 4).trans rfl
                have hcz26_5 : wc.cell? ⟨gb175, 5, none⟩ = some (.int .i64 a0_5) := (blk_cell BK175.out 5).trans rfl
                have hcz26_6 : wc.cell? ⟨gb175, 6, none⟩ = some (.int .i64 a0_6) := (blk_cell BK175.out 6).trans rfl
                have hcz26_7 : wc.cell? ⟨gb175, 7, none⟩ = some (.int .i64 a0_7) := (blk_cell BK175.out 7).trans rfl
                have hcz26_8 : wc.cell? ⟨gb175, 8, none⟩ = some (.int .i64 a0_8) := (blk_cell BK175.out 8).trans rfl
                have hcz26_9 : wc.cell? ⟨gb175, 9, none⟩ = some (.int .i64 a0_9) := (blk_cell BK175.out 9).trans rfl
                have hcz26_10 : wc.cell? ⟨gb175, 10, none⟩ = some (.int .i64 a0_10) := (blk_cell BK175.out 10).trans rfl
                have hcz26_11 : wc.cell? ⟨gb175, 11, none⟩ = some (.int .i64 a0_11) := (blk_cell BK175.out 11).trans rfl
                have hfz26_0 := blk_frozen BK175.out 0
                have hfz26_1 := blk_frozen BK175.out 1
                have hfz26_2 := blk_frozen BK175.out 2
                have hfz26_3 := blk_frozen BK175.out 3
                have hfz26_4 := blk_frozen BK175.out 4
                have hfz26_5 := blk_frozen BK175.out 5
                have hfz26_6 := blk_frozen BK175.out 6
                have hfz26_7 := blk_frozen BK175.out 7
                have hfz26_8 := blk_frozen BK175.out 8
                have hfz26_9 := blk_frozen BK175.out 9
                have hfz26_10 := blk_frozen BK175.out 10
                have hfz26_11 := blk_frozen BK175.out 11
                go_wp2
                go_ret
                exact ⟨by first | rfl | (simp [errW_none, errW_some] <;> rfl) | (simp [*, errW_none, errW_some] <;> rfl), by repeat (first | (with_reducible first | exact HB.out | apply below_alloc | apply pw_below_drewN | apply below_drew1 | refine below_set ?_ GE175.out) | exact HB.out)⟩
              · rw [if_neg c25] at H
                have c25b0 : (a0_6 == 0 && (a0_7 == 0)) = false := by simpa using c25
                (try (have c25b1 : decide (a0_6 = 0 && (a0_7 == 0)) = false := by simpa using c25))
                (try (have c25b2 : (a0_6 == 0 && (a0_7 == 0)) = false := by simpa using c25))
                (try (have c25b3 : ¬ (a0_6 = 0 && (a0_7 == 0)) := by simpa using c25))
                clear c25
                obtain rfl := Option.some.inj H
                have hcz27_0 : wc.cell? ⟨gb175, 0, none⟩ = some (.int .i64 a0_0) := (blk_cell BK175.out 0).trans rfl
                have hcz27_1 : wc.cell? ⟨gb175, 1, none⟩ = some (.int .i64 a0_1) := (blk_cell BK175.out 1).trans rfl
                have hcz27_2 : wc.cell? ⟨gb175, 2, none⟩ = some (.int .i64 a0_2) := (blk_cell BK175.out 2).trans rfl
                have hcz27_3 : wc.cell? ⟨gb175, 3, none⟩ = some (.int .i64 a0_3) := (blk_cell BK175.out 3).trans rfl
                have hcz27_4 : wc.cell? ⟨gb175, 4, none⟩ = some (.int .i64 a0_4) := (blk_cell BK175.out 4).trans rfl
                have hcz27_5 : wc.cell? ⟨gb175, 5, none⟩ = some (.int .i64 a0_5) := (blk_cell BK175.out 5).trans rfl
                have hcz27_6 : wc.cell? ⟨gb175, 6, none⟩ = some (.int .i64 a0_6) := (blk_cell BK175.out 6).trans rfl
                have hcz27_7 : wc.cell? ⟨gb175, 7, none⟩ = some (.int .i64 a0_7) := (blk_cell BK175.out 7).trans rfl
                have hcz27_8 : wc.cell? ⟨gb175, 8, none⟩ = some (.int .i64 a0_8) := (blk_cell BK175.out 8).trans rfl
                have hcz27_9 : wc.cell? ⟨gb175, 9, none⟩ = some (.int .i64 a0_9) := (blk_cell BK175.out 9).trans rfl
                have hcz27_10 : wc.cell? ⟨gb175, 10, none⟩ = some (.int .i64 a0_10) := (blk_cell BK175.out 10).trans rfl
                have hcz27_11 : wc.cell? ⟨gb175, 11, none⟩ = some (.int .i64 a0_11) := (blk_cell BK175.out 11).trans rfl
                have hfz27_0 := blk_frozen BK175.out 0
                have hfz27_1 := blk_frozen BK175.out 1
                have hfz27_2 := blk_frozen BK175.out 2
                have hfz27_3 := blk_frozen BK175.out 3
                have hfz27_4 := blk_frozen BK175.out 4
                have hfz27_5 := blk_frozen BK175.out 5
                have hfz27_6 := blk_frozen BK175.out 6
                have hfz27_7 := blk_frozen BK175.out 7
                have hfz27_8 := blk_frozen BK175.out 8
                have hfz27_9 := blk_frozen BK175.out 9
                have hfz27_10 := blk_frozen BK175.out 10
                have hfz27_11 := blk_frozen BK175.out 11
                go_wp2
                go_ret
                exact ⟨by first | rfl | (simp [errW_none, errW_some] <;> rfl) | (simp [*, errW_none, errW_some] <;> rfl), by repeat (first | (with_reducible first | exact HB.out | apply below_alloc | apply pw_below_drewN | apply below_drew1 | refine below_set ?_ GE175.out) | exact HB.out)⟩
            · replace c24 := Bool.eq_false_iff.mpr c24
              subst c24
              have H1 : (if a0_0 = 2 then ((impl_ballotOk.f a0_6 a0_7).bind fun t180 => (if t180 = true then ((impl_lessBallot.f kj20 a0_6 a0_7 a0_4 a0_5).bind fun t181 => (if t181 = true then ((impl_incWith.f kj20 a0_8 a0_9 a0_10 a0_11 a0_6 a0_7 a0_3).bind fun t182 => (some t182)) else (some false))) else (some false))) else (if a0_0 = 3 then (if (a0_6 == 0 && (a0_7 == 0)) = true then ((impl_incFor.f kj20 a0_8 a0_9 a0_10 a0_11 a0_3).bind fun t183 => (some t183)) else (some false)) else (some false))) = some r := by rw [if_neg (show ¬ (false = true) by decide)] at H; exact H
              clear H
              have H := H1
              clear H1
              by_cases c28 : a0_0 = 2
              · rw [if_pos c28] at H
                have c28b0 : (a0_0 == 2) = true := beq_iff_eq.mpr c28
                have c28b1 : (a0_0 != 2) = false := bne_eq_false_iff_eq.mpr c28
                clear c28
                replace H := Option.bind_eq_some_iff.mp H
                obtain ⟨t180, A290, H⟩ := H
                replace H : (if t180 = true then ((impl_lessBallot.f kj20 a0_6 a0_7 a0_4 a0_5).bind fun t181 => (if t181 = true then ((impl_incWith.f kj20 a0_8 a0_9 a0_10 a0_11 a0_6 a0_7 a0_3).bind fun t182 => (some t182)) else (some false))) else (some false)) = some r := H
                have A29 := Aside0.mk A290
                clear A290
                by_cases c30 : t180 = true
                · subst c30
                  have H1 : ((impl_lessBallot.f kj20 a0_6 a0_7 a0_4 a0_5).bind fun t181 => (if t181 = true then ((impl_incWith.f kj20 a0_8 a0_9 a0_10 a0_11 a0_6 a0_7 a0_3).bind fun t182 => (some t182)) else (some false))) = some r := by rw [if_pos rfl] at H; exact H
                  clear H
                  have H := H1
                  clear H1
                  replace H := Option.bind_eq_some_iff.mp H
                  obtain ⟨t181, A310, H⟩ := H
                  replace H : (if t181 = true then ((impl_incWith.f kj20 a0_8 a0_9 a0_10 a0_11 a0_6 a0_7 a0_3).bind fun t182 => (some t182)) else (some false)) = some r := H
                  have A31 := Aside0.mk A310
                  clear A310
                  by_cases c32 : t181 = true
                  · subst c32
                    have H1 : ((impl_incWith.f kj20 a0_8 a0_9 a0_10 a0_11 a0_6 a0_7 a0_3).bind fun t182 => (some t182)) = some r := by rw [if_pos rfl] at H; exact H
                    clear H
                    have H := H1
                    clear H1
                    replace H := Option.bind_eq_some_iff.mp H
                    obtain ⟨t182, A330, H⟩ := H
                    replace H : (some t182) = some r := H
                    have A33 := Aside0.mk A330
                    clear A330
                    obtain rfl := Option.some.inj H
                    have hcz34_0 : wc.cell? ⟨gb175, 0, none⟩ = some (.int .i64 a0_0) := (blk_cell BK175.out 0).trans rfl
                    have hcz34_1 : wc.cell? ⟨gb175, 1, none⟩ = some (.int .i64 a0_1) := (blk_cell BK175.out 1).trans rfl
                    have hcz34_2 : wc.cell? ⟨gb175, 2, none⟩ = some (.int .i64 a0_2) := (blk_cell BK175.out 2).trans rfl
                    have hcz34_3 : wc.cell? ⟨gb175, 3, none⟩ = some (.int .i64 a0_3) := (blk_cell BK175.out 3).trans rfl
                    have hcz34_4 : wc.cell? ⟨gb175, 4, none⟩ = some (.int .i64 a0_4) := (blk_cell BK175.out 4).trans rfl
                    have hcz34_5 : wc.cell? ⟨gb175, 5, none⟩ = some (.int .i64 a0_5) := (blk_cell BK175.out 5).trans rfl
                    have hcz34_6 : wc.cell? ⟨gb175, 6, none⟩ = some (.int .i64 a0_6) := (blk_cell BK175.out 6).trans rfl
                    have hcz34_7 : wc.cell? ⟨gb175, 7, none⟩ = some (.int .i64 a0_7) := (blk_cell BK175.out 7).trans rfl
                    have hcz34_8 : wc.cell? ⟨gb175, 8, none⟩ = some (.int .i64 a0_8) := (blk_cell BK175.out 8).trans rfl
                    have hcz34_9 : wc.cell? ⟨gb175, 9, none⟩ = some (.int .i64 a0_9) := (blk_cell BK175.out 9).trans rfl
                    have hcz34_10 : wc.cell? ⟨gb175, 10, none⟩ = some (.int .i64 a0_10) := (blk_cell BK175.out 10).trans rfl
                    have hcz34_11 : wc.cell? ⟨gb175, 11, none⟩ = some (.int .i64 a0_11) := (blk_cell BK175.out 11).trans rfl
                    have hfz34_0 := blk_frozen BK175.out 0
                    have hfz34_1 := blk_frozen BK175.out 1
                    have hfz34_2 := blk_frozen BK175.out 2
                    have hfz34_3 := blk_frozen BK175.out 3
                    have hfz34_4 := blk_frozen BK175.out 4
                    have hfz34_5 := blk_frozen BK175.out 5
                    have hfz34_6 := blk_frozen BK175.out 6
                    have hfz34_7 := blk_frozen BK175.out 7
                    have hfz34_8 := blk_frozen BK175.out 8
                    have hfz34_9 := blk_frozen BK175.out 9
                    have hfz34_10 := blk_frozen BK175.out 10
                    have hfz34_11 := blk_frozen BK175.out 11
                    go_wp2_with (first | ((with_reducible refine gate_callee (f := 71) rfl ?_); refine goesL_ (some 50) rfl rfl Try.func71 (by kernel_rfl) rfl #[.agg #[.int .i64 a0_6, .int .i64 a0_7]] rfl (by (try simp only [List.map_toArray, List.map_cons, List.map_nil]); first | done | rfl | (simp only [List.length_drop, List.length_take]; rfl)) ?_; (with_reducible refine (impl_ballotOk.calls a0_6 a0_7 true _ A29.out).mono ?_); rintro e w35 ⟨rfl, hb⟩; refine ⟨_, rfl, ?_⟩; have n0_ := Aside0.mk (blk_below (g := gb175) (o := .cells #[.int .i64 a0_0, .int .i64 a0_1, .int .i64 a0_2, .int .i64 a0_3, .int .i64 a0_4, .int .i64 a0_5, .int .i64 a0_6, .int .i64 a0_7, .int .i64 a0_8, .int .i64 a0_9, .int .i64 a0_10, .int .i64 a0_11] 78 (0, 0)) (by (with_reducible repeat (first | refine blk_drewN ?_ _ | refine blk_drew ?_ | refine blk_alloc ?_ _)); exact BK175.out) hb); have n1_ := Aside0.mk (below_step (by repeat (first | (with_reducible first | exact HB.out | apply below_alloc | apply pw_below_drewN | apply below_drew1 | refine below_set ?_ GE175.out) | exact HB.out)) hb); clear BK175; clear HB; have BK175 := n0_; have HB := n1_; clear n0_ n1_; (try clear hb); (try clear hb2); (try clear hk); (try clear hi); have hcz36_0 : w35.cell? ⟨gb175, 0, none⟩ = some (.int .i64 a0_0) := (blk_cell BK175.out 0).trans rfl; have hcz36_1 : w35.cell? ⟨gb175, 1, none⟩ = some (.int .i64 a0_1) := (blk_cell BK175.out 1).trans rfl; have hcz36_2 : w35.cell? ⟨gb175, 2, none⟩ = some (.int .i64 a0_2) := (blk_cell BK175.out 2).trans rfl; have hcz36_3 : w35.cell? ⟨gb175, 3, none⟩ = some (.int .i64 a0_3) := (blk_cell BK175.out 3).trans rfl; have hcz36_4 : w35.cell? ⟨gb175, 4, none⟩ = some (.int .i64 a0_4) := (blk_cell BK175.out 4).trans rfl; have hcz36_5 : w35.cell? ⟨gb175, 5, none⟩ = some (.int .i64 a0_5) := (blk_cell BK175.out 5).trans rfl; have hcz36_6 : w35.cell? ⟨gb175, 6, none⟩ = some (.int .i64 a0_6) := (blk_cell BK175.out 6).trans rfl; have hcz36_7 : w35.cell? ⟨gb175, 7, none⟩ = some (.int .i64 a0_7) := (blk_cell BK175.out 7).trans rfl; have hcz36_8 : w35.cell? ⟨gb175, 8, none⟩ = some (.int .i64 a0_8) := (blk_cell BK175.out 8).trans rfl; have hcz36_9 : w35.cell? ⟨gb175, 9, none⟩ = some (.int .i64 a0_9) := (blk_cell BK175.out 9).trans rfl; have hcz36_10 : w35.cell? ⟨gb175, 10, none⟩ = some (.int .i64 a0_10) := (blk_cell BK175.out 10).trans rfl; have hcz36_11 : w35.cell? ⟨gb175, 11, none⟩ = some (.int .i64 a0_11) := (blk_cell BK175.out 11).trans rfl; have hfz36_0 := blk_frozen BK175.out 0; have hfz36_1 := blk_frozen BK175.out 1; have hfz36_2 := blk_frozen BK175.out 2; have hfz36_3 := blk_frozen BK175.out 3; have hfz36_4 := blk_frozen BK175.out 4; have hfz36_5 := blk_frozen BK175.out 5; have hfz36_6 := blk_frozen BK175.out 6; have hfz36_7 := blk_frozen BK175.out 7; have hfz36_8 := blk_frozen BK175.out 8; have hfz36_9 := blk_frozen BK175.out 9; have hfz36_10 := blk_frozen BK175.out 10; have hfz36_11 := blk_frozen BK175.out 11) | (go_at_call 72; (with_reducible refine (impl_lessBallot.calls kj20 a0_6 a0_7 a0_4 a0_5 true _ A31.out).mono ?_); rintro e w37 ⟨rfl, hb⟩; have n0_ := Aside0.mk (blk_below (g := gb175) (o := .cells #[.int .i64 a0_0, .int .i64 a0_1, .int .i64 a0_2, .int .i64 a0_3, .int .i64 a0_4, .int .i64 a0_5, .int .i64 a0_6, .int .i64 a0_7, .int .i64 a0_8, .int .i64 a0_9, .int .i64 a0_10, .int .i64 a0_11] 78 (0, 0)) (by (with_reducible repeat (first | refine blk_drewN ?_ _ | refine blk_drew ?_ | refine blk_alloc ?_ _)); exact BK175.out) hb); have n1_ := Aside0.mk (below_step (by repeat (first | (with_reducible first | exact HB.out | apply below_alloc | apply pw_below_drewN | apply below_drew1 | refine below_set ?_ GE175.out) | exact HB.out)) hb); clear BK175; clear HB; have BK175 := n0_; have HB := n1_; clear n0_ n1_; (try clear hb); (try clear hb2); (try clear hk); (try clear hi); have hcz38_0 : w37.cell? ⟨gb175, 0, none⟩ = some (.int .i64 a0_0) := (blk_cell BK175.out 0).trans rfl; have hcz38_1 : w37.cell? ⟨gb175, 1, none⟩ = some (.int .i64 a0_1) := (blk_cell BK175.out 1).trans rfl; have hcz38_2 : w37.cell? ⟨gb175, 2, none⟩ = some (.int .i64 a0_2) := (blk_cell BK175.out 2).trans rfl; have hcz38_3 : w37.cell? ⟨gb175, 3, none⟩ = some (.int .i64 a0_3) := (blk_cell BK175.out 3).trans rfl; have hcz38_4 : w37.cell? ⟨gb175, 4, none⟩ = some (.int .i64 a0_4) := (blk_cell BK175.out 4).trans rfl; have hcz38_5 : w37.cell? ⟨gb175, 5, none⟩ = some (.int .i64 a0_5) := (blk_cell BK175.out 5).trans rfl; have hcz38_6 : w37.cell? ⟨gb175, 6, none⟩ = some (.int .i64 a0_6) := (blk_cell BK175.out 6).trans rfl; have hcz38_7 : w37.cell? ⟨gb175, 7, none⟩ = some (.int .i64 a0_7) := (blk_cell BK175.out 7).trans rfl; have hcz38_8 : w37.cell? ⟨gb175, 8, none⟩ = some (.int .i64 a0_8) := (blk_cell BK175.out 8).trans rfl; have hcz38_9 : w37.cell? ⟨gb175, 9, none⟩ = some (.int .i64 a0_9) := (blk_cell BK175.out 9).trans rfl; have hcz38_10 : w37.cell? ⟨gb175, 10, none⟩ = some (.int .i64 a0_10) := (blk_cell BK175.out 10).trans rfl; have hcz38_11 : w37.cell? ⟨gb175, 11, none⟩ = some (.int .i64 a0_11) := (blk_cell BK175.out 11).trans rfl; have hfz38_0 := blk_frozen BK175.out 0; have hfz38_1 := blk_frozen BK175.out 1; have hfz38_2 := blk_frozen BK175.out 2; have hfz38_3 := blk_frozen BK175.out 3; have hfz38_4 := blk_frozen BK175.out 4; have hfz38_5 := blk_frozen BK175.out 5; have hfz38_6 := blk_frozen BK175.out 6; have hfz38_7 := blk_frozen BK175.out 7; have hfz38_8 := blk_frozen BK175.out 8; have hfz38_9 := blk_frozen BK175.out 9; have hfz38_10 := blk_frozen BK175.out 10; have hfz38_11 := blk_frozen BK175.out 11) | (go_at_call 73; (with_reducible refine (impl_incWith.calls kj20 a0_8 a0_9 a0_10 a0_11 a0_6 a0_7 a0_3 t182 _ A33.out).mono ?_); rintro e w39 ⟨rfl, hb⟩; have n0_ := Aside0.mk (blk_below (g := gb175) (o := .cells #[.int .i64 a0_0, .int .i64 a0_1, .int .i64 a0_2, .int .i64 a0_3, .int .i64 a0_4, .int .i64 a0_5, .int .i64 a0_6, .int .i64 a0_7, .int .i64 a0_8, .int .i64 a0_9, .int .i64 a0_10, .int .i64 a0_11] 78 (0, 0)) (by (with_reducible repeat (first | refine blk_drewN ?_ _ | refine blk_drew ?_ | refine blk_alloc ?_ _)); exact BK175.out) hb); have n1_ := Aside0.mk (below_step (by repeat (first | (with_reducible first | exact HB.out | apply below_alloc | apply pw_below_drewN | apply below_drew1 | refine below_set ?_ GE175.out) | exact HB.out)) hb); clear BK175; clear HB; have BK175 := n0_; have HB := n1_; clear n0_ n1_; (try clear hb); (try clear hb2); (try clear hk); (try clear hi)))
                    go_ret
                    exact ⟨by first | rfl | (simp [errW_none, errW_some] <;> rfl) | (simp [*, errW_none, errW_some] <;> rfl), by repeat (first | (with_reducible first | exact HB.out | apply below_alloc | apply pw_below_drewN | apply below_drew1 | refine below_set ?_ GE175.out) | exact HB.out)⟩
                  · replace c32 := Bool.eq_false_iff.mpr c32
                    subst c32
                    have H1 : (some false) = some r := by rw [if_neg (show ¬ (false = true) by decide)] at H; exact H
                    clear H
                    have H := H1
                    clear H1
                    obtain rfl := Option.some.inj H
                    have hcz40_0 : wc.cell? ⟨gb175, 0, none⟩ = some (.int .i64 a0_0) := (blk_cell BK175.out 0).trans rfl
                    have hcz40_1 : wc.cell? ⟨gb175, 1, none⟩ = some (.int .i64 a0_1) := (blk_cell BK175.out 1).trans rfl
                    have hcz40_2 : wc.cell? ⟨gb175, 2, none⟩ = some (.int .i64 a0_2) := (blk_cell BK175.out 2).trans rfl
                    have hcz40_3 : wc.cell? ⟨gb175, 3, none⟩ = some (.int .i64 a0_3) := (blk_cell BK175.out 3).trans rfl
                    have hcz40_4 : wc.cell? ⟨gb175, 4, none⟩ = some (.int .i64 a0_4) := (blk_cell BK175.out 4).trans rfl
                    have hcz40_5 : wc.cell? ⟨gb175, 5, none⟩ = some (.int .i64 a0_5) := (blk_cell BK175.out 5).trans rfl
                    have hcz40_6 : wc.cell? ⟨gb175, 6, none⟩ = some (.int .i64 a0_6) := (blk_cell BK175.out 6).trans rfl
                    have hcz40_7 : wc.cell? ⟨gb175, 7, none⟩ = some (.int .i64 a0_7) := (blk_cell BK175.out 7).trans rfl
                    have hcz40_8 : wc.cell? ⟨gb175, 8, none⟩ = some (.int .i64 a0_8) := (blk_cell BK175.out 8).trans rfl
                    have hcz40_9 : wc.cell? ⟨gb175, 9, none⟩ = some (.int .i64 a0_9) := (blk_cell BK175.out 9).trans rfl
                    have hcz40_10 : wc.cell? ⟨gb175, 10, none⟩ = some (.int .i64 a0_10) := (blk_cell BK175.out 10).trans rfl
                    have hcz40_11 : wc.cell? ⟨gb175, 11, none⟩ = some (.int .i64 a0_11) := (blk_cell BK175.out 11).trans rfl
                    have hfz40_0 := blk_frozen BK175.out 0
                    have hfz40_1 := blk_frozen BK175.out 1
                    have hfz40_2 := blk_frozen BK175.out 2
                    have hfz40_3 := blk_frozen BK175.out 3
                    have hfz40_4 := blk_frozen BK175.out 4
                    have hfz40_5 := blk_frozen BK175.out 5
                    have hfz40_6 := blk_frozen BK175.out 6
                    have hfz40_7 := blk_frozen BK175.out 7
                    have hfz40_8 := blk_frozen BK175.out 8
                    have hfz40_9 := blk_frozen BK175.out 9
                    have hfz40_10 := blk_frozen BK175.out 10
                    have hfz40_11 := blk_frozen BK175.out 11
                    go_wp2_with (first | ((with_reducible refine gate_callee (f := 71) rfl ?_); refine goesL_ (some 50) rfl rfl Try.func71 (by kernel_rfl) rfl #[.agg #[.int .i64 a0_6, .int .i64 a0_7]] rfl (by (try simp only [List.map_toArray, List.map_cons, List.map_nil]); first | done | rfl | (simp only [List.length_drop, List.length_take]; rfl)) ?_; (with_reducible refine (impl_ballotOk.calls a0_6 a0_7 true _ A29.out).mono ?_); rintro e w41 ⟨rfl, hb⟩; refine ⟨_, rfl, ?_⟩; have n0_ := Aside0.mk (blk_below (g := gb175) (o := .cells #[.int .i64 a0_0, .int .i64 a0_1, .int .i64 a0_2, .int .i64 a0_3, .int .i64 a0_4, .int .i64 a0_5, .int .i64 a0_6, .int .i64 a0_7, .int .i64 a0_8, .int .i64 a0_9, .int .i64 a0_10, .int .i64 a0_11] 78 (0, 0)) (by (with_reducible repeat (first | refine blk_drewN ?_ _ | refine blk_drew ?_ | refine blk_alloc ?_ _)); exact BK175.out) hb); have n1_ := Aside0.mk (below_step (by repeat (first | (with_reducible first | exact HB.out | apply below_alloc | apply pw_below_drewN | apply below_drew1 | refine below_set ?_ GE175.out) | exact HB.out)) hb); clear BK175; clear HB; have BK175 := n0_; have HB := n1_; clear n0_ n1_; (try clear hb); (try clear hb2); (try clear hk); (try clear hi); have hcz42_0 : w41.cell? ⟨gb175, 0, none⟩ = some (.int .i64 a0_0) := (blk_cell BK175.out 0).trans rfl; have hcz42_1 : w41.cell? ⟨gb175, 1, none⟩ = some (.int .i64 a0_1) := (blk_cell BK175.out 1).trans rfl; have hcz42_2 : w41.cell? ⟨gb175, 2, none⟩ = some (.int .i64 a0_2) := (blk_cell BK175.out 2).trans rfl; have hcz42_3 : w41.cell? ⟨gb175, 3, none⟩ = some (.int .i64 a0_3) := (blk_cell BK175.out 3).trans rfl; have hcz42_4 : w41.cell? ⟨gb175, 4, none⟩ = some (.int .i64 a0_4) := (blk_cell BK175.out 4).trans rfl; have hcz42_5 : w41.cell? ⟨gb175, 5, none⟩ = some (.int .i64 a0_5) := (blk_cell BK175.out 5).trans rfl; have hcz42_6 : w41.cell? ⟨gb175, 6, none⟩ = some (.int .i64 a0_6) := (blk_cell BK175.out 6).trans rfl; have hcz42_7 : w41.cell? ⟨gb175, 7, none⟩ = some (.int .i64 a0_7) := (blk_cell BK175.out 7).trans rfl; have hcz42_8 : w41.cell? ⟨gb175, 8, none⟩ = some (.int .i64 a0_8) := (blk_cell BK175.out 8).trans rfl; have hcz42_9 : w41.cell? ⟨gb175, 9, none⟩ = some (.int .i64 a0_9) := (blk_cell BK175.out 9).trans rfl; have hcz42_10 : w41.cell? ⟨gb175, 10, none⟩ = some (.int .i64 a0_10) := (blk_cell BK175.out 10).trans rfl; have hcz42_11 : w41.cell? ⟨gb175, 11, none⟩ = some (.int .i64 a0_11) := (blk_cell BK175.out 11).trans rfl; have hfz42_0 := blk_frozen BK175.out 0; have hfz42_1 := blk_frozen BK175.out 1; have hfz42_2 := blk_frozen BK175.out 2; have hfz42_3 := blk_frozen BK175.out 3; have hfz42_4 := blk_frozen BK175.out 4; have hfz42_5 := blk_frozen BK175.out 5; have hfz42_6 := blk_frozen BK175.out 6; have hfz42_7 := blk_frozen BK175.out 7; have hfz42_8 := blk_frozen BK175.out 8; have hfz42_9 := blk_frozen BK175.out 9; have hfz42_10 := blk_frozen BK175.out 10; have hfz42_11 := blk_frozen BK175.out 11) | (go_at_call 72; (with_reducible refine (impl_lessBallot.calls kj20 a0_6 a0_7 a0_4 a0_5 false _ A31.out).mono ?_); rintro e w43 ⟨rfl, hb⟩; have n0_ := Aside0.mk (blk_below (g := gb175) (o := .cells #[.int .i64 a0_0, .int .i64 a0_1, .int .i64 a0_2, .int .i64 a0_3, .int .i64 a0_4, .int .i64 a0_5, .int .i64 a0_6, .int .i64 a0_7, .int .i64 a0_8, .int .i64 a0_9, .int .i64 a0_10, .int .i64 a0_11] 78 (0, 0)) (by (with_reducible repeat (first | refine blk_drewN ?_ _ | refine blk_drew ?_ | refine blk_alloc ?_ _)); exact BK175.out) hb); have n1_ := Aside0.mk (below_step (by repeat (first | (with_reducible first | exact HB.out | apply below_alloc | apply pw_below_drewN | apply below_drew1 | refine below_set ?_ GE175.out) | exact HB.out)) hb); clear BK175; clear HB; have BK175 := n0_; have HB := n1_; clear n0_ n1_; (try clear hb); (try clear hb2); (try clear hk); (try clear hi)))
                    go_ret
                    exact ⟨by first | rfl | (simp [errW_none, errW_some] <;> rfl) | (simp [*, errW_none, errW_some] <;> rfl), by repeat (first | (with_reducible first | exact HB.out | apply below_alloc | apply pw_below_drewN | apply below_drew1 | refine below_set ?_ GE175.out) | exact HB.out)⟩
                · replace c30 := Bool.eq_false_iff.mpr c30
                  subst c30
                  have H1 : (some false) = some r := by rw [if_neg (show ¬ (false = true) by decide)] at H; exact H
                  clear H
                  have H := H1
                  clear H1
                  obtain rfl := Option.some.inj H
                  have hcz44_0 : wc.cell? ⟨gb175, 0, none⟩ = some (.int .i64 a0_0) := (blk_cell BK175.out 0).trans rfl
                  have hcz44_1 : wc.cell? ⟨gb175, 1, none⟩ = some (.int .i64 a0_1) := (blk_cell BK175.out 1).trans rfl
                  have hcz44_2 : wc.cell? ⟨gb175, 2, none⟩ = some (.int .i64 a0_2) := (blk_cell BK175.out 2).trans rfl
                  have hcz44_3 : wc.cell? ⟨gb175, 3, none⟩ = some (.int .i64 a0_3) := (blk_cell BK175.out 3).trans rfl
                  have hcz44_4 : wc.cell? ⟨gb175, 4, none⟩ = some (.int .i64 a0_4) := (blk_cell BK175.out 4).trans rfl
                  have hcz44_5 : wc.cell? ⟨gb175, 5, none⟩ = some (.int .i64 a0_5) := (blk_cell BK175.out 5).trans rfl
                  have hcz44_6 : wc.cell? ⟨gb175, 6, none⟩ = some (.int .i64 a0_6) := (blk_cell BK175.out 6).trans rfl
                  have hcz44_7 : wc.cell? ⟨gb175, 7, none⟩ = some (.int .i64 a0_7) := (blk_cell BK175.out 7).trans rfl
                  have hcz44_8 : wc.cell? ⟨gb175, 8, none⟩ = some (.int .i64 a0_8) := (blk_cell BK175.out 8).trans rfl
                  have hcz44_9 : wc.cell? ⟨gb175, 9, none⟩ = some (.int .i64 a0_9) := (blk_cell BK175.out 9).trans rfl
                  have hcz44_10 : wc.cell? ⟨gb175, 10, none⟩ = some (.int .i64 a0_10) := (blk_cell BK175.out 10).trans rfl
                  have hcz44_11 : wc.cell? ⟨gb175, 11, none⟩ = some (.int .i64 a0_11) := (blk_cell BK175.out 11).trans rfl
                  have hfz44_0 := blk_frozen BK175.out 0
                  have hfz44_1 := blk_frozen BK175.out 1
                  have hfz44_2 := blk_frozen BK175.out 2
                  have hfz44_3 := blk_frozen BK175.out 3
                  have hfz44_4 := blk_frozen BK175.out 4
                  have hfz44_5 := blk_frozen BK175.out 5
                  have hfz44_6 := blk_frozen BK175.out 6
                  have hfz44_7 := blk_frozen BK175.out 7
                  have hfz44_8 := blk_frozen BK175.out 8
                  have hfz44_9 := blk_frozen BK175.out 9
                  have hfz44_10 := blk_frozen BK175.out 10
                  have hfz44_11 := blk_frozen BK175.out 11
                  go_wp2_with (first | ((with_reducible refine gate_callee (f := 71) rfl ?_); refine goesL_ (some 50) rfl rfl Try.func71 (by kernel_rfl) rfl #[.agg #[.int .i64 a0_6, .int .i64 a0_7]] rfl (by (try simp only [List.map_toArray, List.map_cons, List.map_nil]); first | done | rfl | (simp only [List.length_drop, List.length_take]; rfl)) ?_; (with_reducible refine (impl_ballotOk.calls a0_6 a0_7 false _ A29.out).mono ?_); rintro e w45 ⟨rfl, hb⟩; refine ⟨_, rfl, ?_⟩; have n0_ := Aside0.mk (blk_below (g := gb175) (o := .cells #[.int .i64 a0_0, .int .i64 a0_1, .int .i64 a0_2, .int .i64 a0_3, .int .i64 a0_4, .int .i64 a0_5, .int .i64 a0_6, .int .i64 a0_7, .int .i64 a0_8, .int .i64 a0_9, .int .i64 a0_10, .int .i64 a0_11] 78 (0, 0)) (by (with_reducible repeat (first | refine blk_drewN ?_ _ | refine blk_drew ?_ | refine blk_alloc ?_ _)); exact BK175.out) hb); have n1_ := Aside0.mk (below_step (by repeat (first | (with_reducible first | exact HB.out | apply below_alloc | apply pw_below_drewN | apply below_drew1 | refine below_set ?_ GE175.out) | exact HB.out)) hb); clear BK175; clear HB; have BK175 := n0_; have HB := n1_; clear n0_ n1_; (try clear hb); (try clear hb2); (try clear hk); (try clear hi)))
                  go_ret
                  exact ⟨by first | rfl | (simp [errW_none, errW_some] <;> rfl) | (simp [*, errW_none, errW_some] <;> rfl), by repeat (first | (with_reducible first | exact HB.out | apply below_alloc | apply pw_below_drewN | apply below_drew1 | refine below_set ?_ GE175.out) | exact HB.out)⟩
              · rw [if_neg c28] at H
                have c28b0 : (a0_0 == 2) = false := beq_eq_false_iff_ne.mpr c28
                have c28b1 : (a0_0 != 2) = true := bne_iff_ne.mpr c28
                by_cases c46 : a0_0 = 3
                · rw [if_pos c46] at H
                  have c46b0 : (a0_0 == 3) = true := beq_iff_eq.mpr c46
                  have c46b1 : (a0_0 != 3) = false := bne_eq_false_iff_eq.mpr c46
                  clear c46
                  by_cases c47 : (a0_6 == 0 && (a0_7 == 0)) = true
                  · rw [if_pos c47] at H
                    have c47b0 : (a0_6 == 0 && (a0_7 == 0)) = true := c47
                    (try (have c47b1 : decide (a0_6 = 0 && (a0_7 == 0)) = true := by simpa using c47))
                    (try (have c47b2 : (a0_6 == 0 && (a0_7 == 0)) = true := by simpa using c47))
                    clear c47
                    replace H := Option.bind_eq_some_iff.mp H
                    obtain ⟨t183, A480, H⟩ := H
                    replace H : (some t183) = some r := H
                    have A48 := Aside0.mk A480
                    clear A480
                    obtain rfl := Option.some.inj H
                    have hcz49_0 : wc.cell? ⟨gb175, 0, none⟩ = some (.int .i64 a0_0) := (blk_cell BK175.out 0).trans rfl
                    have hcz49_1 : wc.cell? ⟨gb175, 1, none⟩ = some (.int .i64 a0_1) := (blk_cell BK175.out 1).trans rfl
                    have hcz49_2 : wc.cell? ⟨gb175, 2, none⟩ = some (.int .i64 a0_2) := (blk_cell BK175.out 2).trans rfl
                    have hcz49_3 : wc.cell? ⟨gb175, 3, none⟩ = some (.int .i64 a0_3) := (blk_cell BK175.out 3).trans rfl
                    have hcz49_4 : wc.cell? ⟨gb175, 4, none⟩ = some (.int .i64 a0_4) := (blk_cell BK175.out 4).trans rfl
                    have hcz49_5 : wc.cell? ⟨gb175, 5, none⟩ = some (.int .i64 a0_5) := (blk_cell BK175.out 5).trans rfl
                    have hcz49_6 : wc.cell? ⟨gb175, 6, none⟩ = some (.int .i64 a0_6) := (blk_cell BK175.out 6).trans rfl
                    have hcz49_7 : wc.cell? ⟨gb175, 7, none⟩ = some (.int .i64 a0_7) := (blk_cell BK175.out 7).trans rfl
                    have hcz49_8 : wc.cell? ⟨gb175, 8, none⟩ = some (.int .i64 a0_8) := (blk_cell BK175.out 8).trans rfl
                    have hcz49_9 : wc.cell? ⟨gb175, 9, none⟩ = some (.int .i64 a0_9) := (blk_cell BK175.out 9).trans rfl
                    have hcz49_10 : wc.cell? ⟨gb175, 10, none⟩ = some (.int .i64 a0_10) := (blk_cell BK175.out 10).trans rfl
                    have hcz49_11 : wc.cell? ⟨gb175, 11, none⟩ = some (.int .i64 a0_11) := (blk_cell BK175.out 11).trans rfl
                    have hfz49_0 := blk_frozen BK175.out 0
                    have hfz49_1 := blk_frozen BK175.out 1
                    have hfz49_2 := blk_frozen BK175.out 2
                    have hfz49_3 := blk_frozen BK175.out 3
                    have hfz49_4 := blk_frozen BK175.out 4
                    have hfz49_5 := blk_frozen BK175.out 5
                    have hfz49_6 := blk_frozen BK175.out 6
                    have hfz49_7 := blk_frozen BK175.out 7
                    have hfz49_8 := blk_frozen BK175.out 8
                    have hfz49_9 := blk_frozen BK175.out 9
                    have hfz49_10 := blk_frozen BK175.out 10
                    have hfz49_11 := blk_frozen BK175.out 11
                    go_wp2_with (first | (go_at_call 74; (with_reducible refine (impl_incFor.calls kj20 a0_8 a0_9 a0_10 a0_11 a0_3 t183 _ A48.out).mono ?_); rintro e w50 ⟨rfl, hb⟩; have n0_ := Aside0.mk (blk_below (g := gb175) (o := .cells #[.int .i64 a0_0, .int .i64 a0_1, .int .i64 a0_2, .int .i64 a0_3, .int .i64 a0_4, .int .i64 a0_5, .int .i64 a0_6, .int .i64 a0_7, .int .i64 a0_8, .int .i64 a0_9, .int .i64 a0_10, .int .i64 a0_11] 78 (0, 0)) (by (with_reducible repeat (first | refine blk_drewN ?_ _ | refine blk_drew ?_ | refine blk_alloc ?_ _)); exact BK175.out) hb); have n1_ := Aside0.mk (below_step (by repeat (first | (with_reducible first | exact HB.out | apply below_alloc | apply pw_below_drewN | apply below_drew1 | refine below_set ?_ GE175.out) | exact HB.out)) hb); clear BK175; clear HB; have BK175 := n0_; have HB := n1_; clear n0_ n1_; (try clear hb); (try clear hb2); (try clear hk); (try clear hi)))
                    go_ret
                    exact ⟨by first | rfl | (simp [errW_none, errW_some] <;> rfl) | (simp [*, errW_none, errW_some] <;> rfl), by repeat (first | (with_reducible first | exact HB.out | apply below_alloc | apply pw_below_drewN | apply below_drew1 | refine below_set ?_ GE175.out) | exact HB.out)⟩
                  · rw [if_neg c47] at H
                    have c47b0 : (a0_6 == 0 && (a0_7 == 0)) = false := by simpa using c47
                    (try (have c47b1 : decide (a0_6 = 0 && (a0_7 == 0)) = false := by simpa using c47))
                    (try (have c47b2 : (a0_6 == 0 && (a0_7 == 0)) = false := by simpa using c47))
                    (try (have c47b3 : ¬ (a0_6 = 0 && (a0_7 == 0)) := by simpa using c47))
                    clear c47
                    obtain rfl := Option.some.inj H
                    have hcz51_0 : wc.cell? ⟨gb175, 0, none⟩ = some (.int .i64 a0_0) := (blk_cell BK175.out 0).trans rfl
                    have hcz51_1 : wc.cell? ⟨gb175, 1, none⟩ = some (.int .i64 a0_1) := (blk_cell BK175.out 1).trans rfl
                    have hcz51_2 : wc.cell? ⟨gb175, 2, none⟩ = some (.int .i64 a0_2) := (blk_cell BK175.out 2).trans rfl
                    have hcz51_3 : wc.cell? ⟨gb175, 3, none⟩ = some (.int .i64 a0_3) := (blk_cell BK175.out 3).trans rfl
                    have hcz51_4 : wc.cell? ⟨gb175, 4, none⟩ = some (.int .i64 a0_4) := (blk_cell BK175.out 4).trans rfl
                    have hcz51_5 : wc.cell? ⟨gb175, 5, none⟩ = some (.int .i64 a0_5) := (blk_cell BK175.out 5).trans rfl
                    have hcz51_6 : wc.cell? ⟨gb175, 6, none⟩ = some (.int .i64 a0_6) := (blk_cell BK175.out 6).trans rfl
                    have hcz51_7 : wc.cell? ⟨gb175, 7, none⟩ = some (.int .i64 a0_7) := (blk_cell BK175.out 7).trans rfl
                    have hcz51_8 : wc.cell? ⟨gb175, 8, none⟩ = some (.int .i64 a0_8) := (blk_cell BK175.out 8).trans rfl
                    have hcz51_9 : wc.cell? ⟨gb175, 9, none⟩ = some (.int .i64 a0_9) := (blk_cell BK175.out 9).trans rfl
                    have hcz51_10 : wc.cell? ⟨gb175, 10, none⟩ = some (.int .i64 a0_10) := (blk_cell BK175.out 10).trans rfl
                    have hcz51_11 : wc.cell? ⟨gb175, 11, none⟩ = some (.int .i64 a0_11) := (blk_cell BK175.out 11).trans rfl
                    have hfz51_0 := blk_frozen BK175.out 0
                    have hfz51_1 := blk_frozen BK175.out 1
                    have hfz51_2 := blk_frozen BK175.out 2
                    have hfz51_3 := blk_frozen BK175.out 3
                    have hfz51_4 := blk_frozen BK175.out 4
                    have hfz51_5 := blk_frozen BK175.out 5
                    have hfz51_6 := blk_frozen BK175.out 6
                    have hfz51_7 := blk_frozen BK175.out 7
                    have hfz51_8 := blk_frozen BK175.out 8
                    have hfz51_9 := blk_frozen BK175.out 9
                    have hfz51_10 := blk_frozen BK175.out 10
                    have hfz51_11 := blk_frozen BK175.out 11
                    go_wp2
                    go_ret
                    exact ⟨by first | rfl | (simp [errW_none, errW_some] <;> rfl) | (simp [*, errW_none, errW_some] <;> rfl), by repeat (first | (with_reducible first | exact HB.out | apply below_alloc | apply pw_below_drewN | apply below_drew1 | refine below_set ?_ GE175.out) | exact HB.out)⟩
                · rw [if_neg c46] at H
                  have c46b0 : (a0_0 == 3) = false := beq_eq_false_iff_ne.mpr c46
                  have c46b1 : (a0_0 != 3) = true := bne_iff_ne.mpr c46
                  obtain rfl := Option.some.inj H
                  go_wp2
                  go_ret
                  exact ⟨by first | rfl | (simp [errW_none, errW_some] <;> rfl) | (simp [*, errW_none, errW_some] <;> rfl), by repeat (first | (with_reducible first | exact HB.out | apply below_alloc | apply pw_below_drewN | apply below_drew1 | refine below_set ?_ GE175.out) | exact HB.out)⟩

end Go.Proofs.Ytchajonibjacaaa.PFnExactMonMsgOk
