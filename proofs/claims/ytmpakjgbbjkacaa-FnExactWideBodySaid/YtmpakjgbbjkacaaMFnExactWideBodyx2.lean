-- Written by a program of this session (wip/tools/myprint.py) over the kit's print: it is not the kit's print.
import Derived.Test.YtmpakjgbbjkacaaExtra
import Derived.Test.YtmpakjgbbjkacaaMFnExactWideBodyx0
import Derived.Test.YtmpakjgbbjkacaaMFnExactWideBodyx1
namespace Go.Proofs.Ytmpakjgbbjkacaa.MFnExactWideBody
open Go.RowKit Go.Proofs.YtmpakjgbbjkacaaW.PrintWords Go.Proofs.YtmpakjgbbjkacaaW.PrintLast Go.Proofs.YtmpakjgbbjkacaaW.PrintMore
open List renaming setIfInBounds_toArray → sit, set_cons_zero → scz, set_cons_succ → scs, map_toArray → mta, map_cons → mco, map_nil → mni, length_drop → lnd, length_take → lnt
open World renaming block_lt_of_cell? → blc
attribute [local go_sem] max2_int min2_int max_two min_two max_three min_three max_four min_four   -- for this text's walks alone
set_option linter.unusedVariables false
set_option linter.unusedSimpArgs false

/-! ### spec_l05OK: function 35 -/
mutual
def spec_l05OK.j0 : Nat → Bool → Int → Int → Int → Int → List ByteArray → Option (Bool)
 | 0, _, _, _, _, _, _ => none
 | k + 1, x32, x109000, x109001, x109002, x109003, x109004 => if x32 = true then (some false) else (spec_l05OK.l0 k 0 x109000 x109001 x109002 x109003 x109004)
def spec_l05OK.l0 : Nat → Int → Int → Int → Int → Int → List ByteArray → Option (Bool)
 | 0, _, _, _, _, _, _ => none
 | k + 1, x3, x109000, x109001, x109002, x109003, x109004 => if x3 < (x109004.length : Int) then (if 0 ≤ x3 then ((spec_l05Tall.f x109000 x109001 x109002 x109003).bind fun t113 => (if ((rdOf ByteArray.empty x109004 x3).size : Int) = t113 then (spec_l05OK.l0 k (wrap64 (x3 + 1)) x109000 x109001 x109002 x109003 x109004) else (some false))) else (none)) else (some true)
end
def spec_l05OK.f (k : Nat) (a0_0 : Int) (a0_1 : Int) (a0_2 : Int) (a0_3 : Int) (l0_4 : List ByteArray) : Option (Bool) := (spec_l04Code.f a0_0 a0_1).bind fun t109 => (if t109 = true then ((spec_l00In.f a0_2 1 8).bind fun t110 => (if t110 = true then ((spec_l00In.f a0_3 0 256).bind fun t111 => (if t111 = true then (spec_l05OK.j0 k ((l0_4.length : Int) != (wrap64 (a0_0 + a0_1))) a0_0 a0_1 a0_2 a0_3 l0_4) else (spec_l05OK.j0 k true a0_0 a0_1 a0_2 a0_3 l0_4))) else (spec_l05OK.j0 k true a0_0 a0_1 a0_2 a0_3 l0_4))) else (spec_l05OK.j0 k true a0_0 a0_1 a0_2 a0_3 l0_4))
theorem spec_l05OK.mono_l : ∀ k, (∀ y0 y1 y2 y3 y4 y5, LeO (spec_l05OK.j0 k y0 y1 y2 y3 y4 y5) (spec_l05OK.j0 (k + 1) y0 y1 y2 y3 y4 y5)) ∧ (∀ y0 y1 y2 y3 y4 y5, LeO (spec_l05OK.l0 k y0 y1 y2 y3 y4 y5) (spec_l05OK.l0 (k + 1) y0 y1 y2 y3 y4 y5))
 | 0 => ⟨fun _ _ _ _ _ _ r h => by simp [spec_l05OK.j0] at h, fun _ _ _ _ _ _ r h => by simp [spec_l05OK.l0] at h⟩
 | k + 1 => by
  obtain ⟨ih0, ih1⟩ := spec_l05OK.mono_l k
  refine ⟨?_, ?_⟩
  ·intro y0 y1 y2 y3 y4 y5
   unfold spec_l05OK.j0
   repeat' first
   | (with_reducible exact ih0 _ _ _ _ _ _)
   | (with_reducible exact ih1 _ _ _ _ _ _)
   | (with_reducible exact LeO.refl _)
   | (with_reducible exact LeO.none _)
   | (with_reducible refine LeO.ite ?_ ?_)
   | (with_reducible refine LeO.bind ?_ (fun _ => ?_))
   | exact ih0 _ _ _ _ _ _
   | exact ih1 _ _ _ _ _ _
   | exact LeO.none _
   | refine LeO.ite ?_ ?_
   | refine LeO.bind ?_ (fun _ => ?_)
  ·intro y0 y1 y2 y3 y4 y5
   unfold spec_l05OK.l0
   repeat' first
   | (with_reducible exact ih0 _ _ _ _ _ _)
   | (with_reducible exact ih1 _ _ _ _ _ _)
   | (with_reducible exact LeO.refl _)
   | (with_reducible exact LeO.none _)
   | (with_reducible refine LeO.ite ?_ ?_)
   | (with_reducible refine LeO.bind ?_ (fun _ => ?_))
   | exact ih0 _ _ _ _ _ _
   | exact ih1 _ _ _ _ _ _
   | exact LeO.none _
   | refine LeO.ite ?_ ?_
   | refine LeO.bind ?_ (fun _ => ?_)
theorem spec_l05OK.mono : ∀ a0 a1 a2 a3 a4 k, LeO (spec_l05OK.f k a0 a1 a2 a3 a4) (spec_l05OK.f (k + 1) a0 a1 a2 a3 a4) := by
 intro a0 a1 a2 a3 a4 k
 obtain ⟨ih0, ih1⟩ := spec_l05OK.mono_l k
 unfold spec_l05OK.f
 repeat' first
   | (with_reducible exact ih0 _ _ _ _ _ _)
   | (with_reducible exact ih1 _ _ _ _ _ _)
   | (with_reducible exact LeO.refl _)
   | (with_reducible exact LeO.none _)
   | (with_reducible refine LeO.ite ?_ ?_)
   | (with_reducible refine LeO.bind ?_ (fun _ => ?_))
   | exact ih0 _ _ _ _ _ _
   | exact ih1 _ _ _ _ _ _
   | exact LeO.none _
   | refine LeO.ite ?_ ?_
   | refine LeO.bind ?_ (fun _ => ?_)
def spec_l05OK.T6 : Bool × List (List Nat × List Nat) := (true, [([], []), ([0], [0]), ([], []), ([1, 2], [1, 2]), ([3], [3]), ([4], [4]), ([], []), ([6], [6]), ([], []), ([8], [8]), ([], []), ([10], [10]), ([7, 9, 11], [7, 9, 11]), ([5, 12], [5, 12])])
def spec_l05OK.B6 : List Nat := [0, 1, 0, 7, 15, 31, 0, 64, 0, 256, 0, 1024, 4032, 8191]
theorem spec_l05OK.tab6 : rtab .any (opsOf Try.f35 6) = spec_l05OK.T6 := by kernel_rfl
theorem spec_l05OK.bits6 : waitsOk spec_l05OK.T6.2 spec_l05OK.B6 = true := by kernel_rfl
set_option maxHeartbeats 8000000 in
set_option maxRecDepth 100000 in
theorem spec_l05OK.calls (k : Nat) (a0_0 : Int) (a0_1 : Int) (a0_2 : Int) (a0_3 : Int) (A0_4 : Option Addr) (c0_4 : Nat) (l0_4 : List ByteArray) (r : Bool) (w : World) (hr0_4 : Kd.C Kd.string w A0_4 l0_4.length l0_4) (hc0_4 : l0_4.length ≤ c0_4) (h : spec_l05OK.f k a0_0 a0_1 a0_2 a0_3 l0_4 = some r) :
  Calls Try.prog 35 #[.agg #[.int .i64 a0_0, .int .i64 a0_1, .int .i64 a0_2, .int .i64 a0_3, .slice A0_4 l0_4.length c0_4]] w fun e w' => e = .returned (.bool r) ∧ Below w.heap.size w w' := by
 have hu32 := Try.underlying32
 have hu30 := Try.underlying30
 have HR0_4 := am hr0_4
 have HC0_4 := am hc0_4
 clear hr0_4 hc0_4
 have HB := am (Below.refl w.heap.size w)
 have H : ((spec_l04Code.f a0_0 a0_1).bind fun t109 => (if t109 = true then ((spec_l00In.f a0_2 1 8).bind fun t110 => (if t110 = true then ((spec_l00In.f a0_3 0 256).bind fun t111 => (if t111 = true then (spec_l05OK.j0 k ((l0_4.length : Int) != (wrap64 (a0_0 + a0_1))) a0_0 a0_1 a0_2 a0_3 l0_4) else (spec_l05OK.j0 k true a0_0 a0_1 a0_2 a0_3 l0_4))) else (spec_l05OK.j0 k true a0_0 a0_1 a0_2 a0_3 l0_4))) else (spec_l05OK.j0 k true a0_0 a0_1 a0_2 a0_3 l0_4))) = some r := h
 clear h
 have HC2 := am H
 clear H
 go_enter Try.func35, Try.ntmps35
 go_upto_region 1 with (first | ((with_reducible refine gate_dst (N := 1) rfl ?_); (try (refine gate_guard (by rfl) ?_; dsimp only)); refine box_event ?hg (N := 1) ?hd (cs := #[.int .i64 a0_0, .int .i64 a0_1, .int .i64 a0_2, .int .i64 a0_3, .slice A0_4 l0_4.length c0_4]) (t := 32) ?hr ?_; (case hd => rfl); (case hg => rfl); (case hr => first | (go_simp; done) | (go_simp; rfl)); intro gb108 hg w3 hbox hb; have n0_ := am (below_step (by repeat (first | (with_reducible first | exact HB.out | apply bal | apply pdn | apply bd1) | exact HB.out)) hb); have n1_ := am (hbox); have n2_ := am ((by rw [hg]; exact (below_size (by repeat (first | (with_reducible first | exact HB.out | apply bal | apply pdn | apply bd1) | exact HB.out))) : w.heap.size ≤ gb108)); have n3_ := am ((by rw [hg]; exact (below_size (by repeat (first | (with_reducible first | exact HB.out | apply bal | apply pdn | apply bd1) | exact HB.out))) : w.heap.size ≤ gb108)); clear HB; have HB := n0_; have BK108 := n1_; have GW108 := n2_; have GE108 := n3_; clear n0_ n1_ n2_ n3_; clear hb hbox hg))
 (try simp only [Act.put, sit, scz, scs])
 go_cut [32] (fun v32 wc => ∃ (kq : Nat) (x32_1 : Bool), v32 = .bool x32_1 ∧ Aside0 (spec_l05OK.j0 kq x32_1 a0_0 a0_1 a0_2 a0_3 l0_4 = some r) ∧ Aside0 (kq ≤ k) ∧ Aside0 (wc.heap[gb108]? = some (.cells #[.int .i64 a0_0, .int .i64 a0_1, .int .i64 a0_2, .int .i64 a0_3, (.slice A0_4 l0_4.length c0_4)] 32 (0, 0))) ∧ Aside0 (Below w.heap.size w wc))
 case first =>
  have H := HC2.out
  clear HC2
  replace H := Option.bind_eq_some_iff.mp H
  obtain ⟨t109, A40, H⟩ := H
  replace H : (if t109 = true then ((spec_l00In.f a0_2 1 8).bind fun t110 => (if t110 = true then ((spec_l00In.f a0_3 0 256).bind fun t111 => (if t111 = true then (spec_l05OK.j0 k ((l0_4.length : Int) != (wrap64 (a0_0 + a0_1))) a0_0 a0_1 a0_2 a0_3 l0_4) else (spec_l05OK.j0 k true a0_0 a0_1 a0_2 a0_3 l0_4))) else (spec_l05OK.j0 k true a0_0 a0_1 a0_2 a0_3 l0_4))) else (spec_l05OK.j0 k true a0_0 a0_1 a0_2 a0_3 l0_4)) = some r := H
  have A4 := am A40
  clear A40
  by_cases c5 : t109 = true
  ·subst c5
   have H1 : ((spec_l00In.f a0_2 1 8).bind fun t110 => (if t110 = true then ((spec_l00In.f a0_3 0 256).bind fun t111 => (if t111 = true then (spec_l05OK.j0 k ((l0_4.length : Int) != (wrap64 (a0_0 + a0_1))) a0_0 a0_1 a0_2 a0_3 l0_4) else (spec_l05OK.j0 k true a0_0 a0_1 a0_2 a0_3 l0_4))) else (spec_l05OK.j0 k true a0_0 a0_1 a0_2 a0_3 l0_4))) = some r := by rw [if_pos rfl] at H; exact H
   clear H
   have H := H1
   clear H1
   replace H := Option.bind_eq_some_iff.mp H
   obtain ⟨t110, A60, H⟩ := H
   replace H : (if t110 = true then ((spec_l00In.f a0_3 0 256).bind fun t111 => (if t111 = true then (spec_l05OK.j0 k ((l0_4.length : Int) != (wrap64 (a0_0 + a0_1))) a0_0 a0_1 a0_2 a0_3 l0_4) else (spec_l05OK.j0 k true a0_0 a0_1 a0_2 a0_3 l0_4))) else (spec_l05OK.j0 k true a0_0 a0_1 a0_2 a0_3 l0_4)) = some r := H
   have A6 := am A60
   clear A60
   by_cases c7 : t110 = true
   ·subst c7
    have H1 : ((spec_l00In.f a0_3 0 256).bind fun t111 => (if t111 = true then (spec_l05OK.j0 k ((l0_4.length : Int) != (wrap64 (a0_0 + a0_1))) a0_0 a0_1 a0_2 a0_3 l0_4) else (spec_l05OK.j0 k true a0_0 a0_1 a0_2 a0_3 l0_4))) = some r := by rw [if_pos rfl] at H; exact H
    clear H
    have H := H1
    clear H1
    replace H := Option.bind_eq_some_iff.mp H
    obtain ⟨t111, A80, H⟩ := H
    replace H : (if t111 = true then (spec_l05OK.j0 k ((l0_4.length : Int) != (wrap64 (a0_0 + a0_1))) a0_0 a0_1 a0_2 a0_3 l0_4) else (spec_l05OK.j0 k true a0_0 a0_1 a0_2 a0_3 l0_4)) = some r := H
    have A8 := am A80
    clear A80
    by_cases c9 : t111 = true
    ·subst c9
     have H1 : (spec_l05OK.j0 k ((l0_4.length : Int) != (wrap64 (a0_0 + a0_1))) a0_0 a0_1 a0_2 a0_3 l0_4) = some r := by rw [if_pos rfl] at H; exact H
     clear H
     have H := H1
     clear H1
     have H' := am H
     clear H
     have hcz10_0 : w3.cell? ⟨gb108, 0, none⟩ = some (.int .i64 a0_0) := (kce BK108.out 0).trans rfl
     have hcz10_1 : w3.cell? ⟨gb108, 1, none⟩ = some (.int .i64 a0_1) := (kce BK108.out 1).trans rfl
     have hcz10_2 : w3.cell? ⟨gb108, 2, none⟩ = some (.int .i64 a0_2) := (kce BK108.out 2).trans rfl
     have hcz10_3 : w3.cell? ⟨gb108, 3, none⟩ = some (.int .i64 a0_3) := (kce BK108.out 3).trans rfl
     have hcz10_4 : w3.cell? ⟨gb108, 4, none⟩ = some (.slice A0_4 l0_4.length c0_4) := (kce BK108.out 4).trans rfl
     have hfz10_0 := kfr BK108.out 0
     have hfz10_1 := kfr BK108.out 1
     have hfz10_2 := kfr BK108.out 2
     have hfz10_3 := kfr BK108.out 3
     have hfz10_4 := kfr BK108.out 4
     go_wp2_with (first | ((with_reducible refine gate_callee (f := 70) rfl ?_); refine goesL_ (some 6) rfl rfl Try.func70 (by kernel_rfl) rfl #[.agg #[.int .i64 a0_0, .int .i64 a0_1]] rfl (by (try simp only [mta, mco, mni]); first | done | rfl | (simp only [lnd, lnt]; rfl)) ?_; (with_reducible refine (spec_l04Code.calls a0_0 a0_1 true _ A4.out).mono ?_); rintro e w11 ⟨rfl, hb⟩; refine ⟨_, rfl, ?_⟩; have n0_ := am (kbb (g := gb108) (o := .cells #[.int .i64 a0_0, .int .i64 a0_1, .int .i64 a0_2, .int .i64 a0_3, .slice A0_4 l0_4.length c0_4] 32 (0, 0)) (by (with_reducible repeat (first | apply kdn | apply kdr | apply kal)); exact BK108.out) hb); have n1_ := am (below_step (by repeat (first | (with_reducible first | exact HB.out | apply bal | apply pdn | apply bd1 | refine bst ?_ GE108.out) | exact HB.out)) hb); clear BK108; clear HB; have BK108 := n0_; have HB := n1_; clear n0_ n1_; (try clear hb); (try clear hb2); (try clear hk); (try clear hi); have hcz12_0 : w11.cell? ⟨gb108, 0, none⟩ = some (.int .i64 a0_0) := (kce BK108.out 0).trans rfl; have hcz12_1 : w11.cell? ⟨gb108, 1, none⟩ = some (.int .i64 a0_1) := (kce BK108.out 1).trans rfl; have hcz12_2 : w11.cell? ⟨gb108, 2, none⟩ = some (.int .i64 a0_2) := (kce BK108.out 2).trans rfl; have hcz12_3 : w11.cell? ⟨gb108, 3, none⟩ = some (.int .i64 a0_3) := (kce BK108.out 3).trans rfl; have hcz12_4 : w11.cell? ⟨gb108, 4, none⟩ = some (.slice A0_4 l0_4.length c0_4) := (kce BK108.out 4).trans rfl; have hfz12_0 := kfr BK108.out 0; have hfz12_1 := kfr BK108.out 1; have hfz12_2 := kfr BK108.out 2; have hfz12_3 := kfr BK108.out 3; have hfz12_4 := kfr BK108.out 4) | (go_at_call 43; (with_reducible refine (spec_l00In.calls a0_2 1 8 true _ A6.out).mono ?_); rintro e w' ⟨rfl, ⟨nd, rfl⟩⟩) | (go_at_call 43; (with_reducible refine (spec_l00In.calls a0_3 0 256 true _ A8.out).mono ?_); rintro e w' ⟨rfl, ⟨nd, rfl⟩⟩))
     go_meet
     case rel => exact ⟨_, (((l0_4.length : Int) != (wrap64 (a0_0 + a0_1)))), (by first | rfl | (simp; done) | (simp [*]; done)), H', ⟨by first | omega | exact Nat.le_refl _⟩, ⟨by (with_reducible repeat (first | apply kdn | apply kdr | apply kal)); exact BK108.out⟩, ⟨by repeat (first | (with_reducible first | exact HB.out | apply bal | apply pdn | apply bd1 | refine bst ?_ GE108.out) | exact HB.out)⟩⟩
    ·replace c9 := Bool.eq_false_iff.mpr c9
     subst c9
     have H1 : (spec_l05OK.j0 k true a0_0 a0_1 a0_2 a0_3 l0_4) = some r := by rw [if_neg (show ¬ (false = true) by decide)] at H; exact H
     clear H
     have H := H1
     clear H1
     have H' := am H
     clear H
     have hcz13_0 : w3.cell? ⟨gb108, 0, none⟩ = some (.int .i64 a0_0) := (kce BK108.out 0).trans rfl
     have hcz13_1 : w3.cell? ⟨gb108, 1, none⟩ = some (.int .i64 a0_1) := (kce BK108.out 1).trans rfl
     have hcz13_2 : w3.cell? ⟨gb108, 2, none⟩ = some (.int .i64 a0_2) := (kce BK108.out 2).trans rfl
     have hcz13_3 : w3.cell? ⟨gb108, 3, none⟩ = some (.int .i64 a0_3) := (kce BK108.out 3).trans rfl
     have hcz13_4 : w3.cell? ⟨gb108, 4, none⟩ = some (.slice A0_4 l0_4.length c0_4) := (kce BK108.out 4).trans rfl
     have hfz13_0 := kfr BK108.out 0
     have hfz13_1 := kfr BK108.out 1
     have hfz13_2 := kfr BK108.out 2
     have hfz13_3 := kfr BK108.out 3
     have hfz13_4 := kfr BK108.out 4
     go_wp2_with (first | ((with_reducible refine gate_callee (f := 70) rfl ?_); refine goesL_ (some 6) rfl rfl Try.func70 (by kernel_rfl) rfl #[.agg #[.int .i64 a0_0, .int .i64 a0_1]] rfl (by (try simp only [mta, mco, mni]); first | done | rfl | (simp only [lnd, lnt]; rfl)) ?_; (with_reducible refine (spec_l04Code.calls a0_0 a0_1 true _ A4.out).mono ?_); rintro e w14 ⟨rfl, hb⟩; refine ⟨_, rfl, ?_⟩; have n0_ := am (kbb (g := gb108) (o := .cells #[.int .i64 a0_0, .int .i64 a0_1, .int .i64 a0_2, .int .i64 a0_3, .slice A0_4 l0_4.length c0_4] 32 (0, 0)) (by (with_reducible repeat (first | apply kdn | apply kdr | apply kal)); exact BK108.out) hb); have n1_ := am (below_step (by repeat (first | (with_reducible first | exact HB.out | apply bal | apply pdn | apply bd1 | refine bst ?_ GE108.out) | exact HB.out)) hb); clear BK108; clear HB; have BK108 := n0_; have HB := n1_; clear n0_ n1_; (try clear hb); (try clear hb2); (try clear hk); (try clear hi); have hcz15_0 : w14.cell? ⟨gb108, 0, none⟩ = some (.int .i64 a0_0) := (kce BK108.out 0).trans rfl; have hcz15_1 : w14.cell? ⟨gb108, 1, none⟩ = some (.int .i64 a0_1) := (kce BK108.out 1).trans rfl; have hcz15_2 : w14.cell? ⟨gb108, 2, none⟩ = some (.int .i64 a0_2) := (kce BK108.out 2).trans rfl; have hcz15_3 : w14.cell? ⟨gb108, 3, none⟩ = some (.int .i64 a0_3) := (kce BK108.out 3).trans rfl; have hcz15_4 : w14.cell? ⟨gb108, 4, none⟩ = some (.slice A0_4 l0_4.length c0_4) := (kce BK108.out 4).trans rfl; have hfz15_0 := kfr BK108.out 0; have hfz15_1 := kfr BK108.out 1; have hfz15_2 := kfr BK108.out 2; have hfz15_3 := kfr BK108.out 3; have hfz15_4 := kfr BK108.out 4) | (go_at_call 43; (with_reducible refine (spec_l00In.calls a0_2 1 8 true _ A6.out).mono ?_); rintro e w' ⟨rfl, ⟨nd, rfl⟩⟩) | (go_at_call 43; (with_reducible refine (spec_l00In.calls a0_3 0 256 false _ A8.out).mono ?_); rintro e w' ⟨rfl, ⟨nd, rfl⟩⟩))
     go_meet
     case rel => exact ⟨_, (true), (by first | rfl | (simp; done) | (simp [*]; done)), H', ⟨by first | omega | exact Nat.le_refl _⟩, ⟨by (with_reducible repeat (first | apply kdn | apply kdr | apply kal)); exact BK108.out⟩, ⟨by repeat (first | (with_reducible first | exact HB.out | apply bal | apply pdn | apply bd1 | refine bst ?_ GE108.out) | exact HB.out)⟩⟩
   ·replace c7 := Bool.eq_false_iff.mpr c7
    subst c7
    have H1 : (spec_l05OK.j0 k true a0_0 a0_1 a0_2 a0_3 l0_4) = some r := by rw [if_neg (show ¬ (false = true) by decide)] at H; exact H
    clear H
    have H := H1
    clear H1
    have H' := am H
    clear H
    have hcz16_0 : w3.cell? ⟨gb108, 0, none⟩ = some (.int .i64 a0_0) := (kce BK108.out 0).trans rfl
    have hcz16_1 : w3.cell? ⟨gb108, 1, none⟩ = some (.int .i64 a0_1) := (kce BK108.out 1).trans rfl
    have hcz16_2 : w3.cell? ⟨gb108, 2, none⟩ = some (.int .i64 a0_2) := (kce BK108.out 2).trans rfl
    have hcz16_3 : w3.cell? ⟨gb108, 3, none⟩ = some (.int .i64 a0_3) := (kce BK108.out 3).trans rfl
    have hcz16_4 : w3.cell? ⟨gb108, 4, none⟩ = some (.slice A0_4 l0_4.length c0_4) := (kce BK108.out 4).trans rfl
    have hfz16_0 := kfr BK108.out 0
    have hfz16_1 := kfr BK108.out 1
    have hfz16_2 := kfr BK108.out 2
    have hfz16_3 := kfr BK108.out 3
    have hfz16_4 := kfr BK108.out 4
    go_wp2_with (first | ((with_reducible refine gate_callee (f := 70) rfl ?_); refine goesL_ (some 6) rfl rfl Try.func70 (by kernel_rfl) rfl #[.agg #[.int .i64 a0_0, .int .i64 a0_1]] rfl (by (try simp only [mta, mco, mni]); first | done | rfl | (simp only [lnd, lnt]; rfl)) ?_; (with_reducible refine (spec_l04Code.calls a0_0 a0_1 true _ A4.out).mono ?_); rintro e w17 ⟨rfl, hb⟩; refine ⟨_, rfl, ?_⟩; have n0_ := am (kbb (g := gb108) (o := .cells #[.int .i64 a0_0, .int .i64 a0_1, .int .i64 a0_2, .int .i64 a0_3, .slice A0_4 l0_4.length c0_4] 32 (0, 0)) (by (with_reducible repeat (first | apply kdn | apply kdr | apply kal)); exact BK108.out) hb); have n1_ := am (below_step (by repeat (first | (with_reducible first | exact HB.out | apply bal | apply pdn | apply bd1 | refine bst ?_ GE108.out) | exact HB.out)) hb); clear BK108; clear HB; have BK108 := n0_; have HB := n1_; clear n0_ n1_; (try clear hb); (try clear hb2); (try clear hk); (try clear hi); have hcz18_0 : w17.cell? ⟨gb108, 0, none⟩ = some (.int .i64 a0_0) := (kce BK108.out 0).trans rfl; have hcz18_1 : w17.cell? ⟨gb108, 1, none⟩ = some (.int .i64 a0_1) := (kce BK108.out 1).trans rfl; have hcz18_2 : w17.cell? ⟨gb108, 2, none⟩ = some (.int .i64 a0_2) := (kce BK108.out 2).trans rfl; have hcz18_3 : w17.cell? ⟨gb108, 3, none⟩ = some (.int .i64 a0_3) := (kce BK108.out 3).trans rfl; have hcz18_4 : w17.cell? ⟨gb108, 4, none⟩ = some (.slice A0_4 l0_4.length c0_4) := (kce BK108.out 4).trans rfl; have hfz18_0 := kfr BK108.out 0; have hfz18_1 := kfr BK108.out 1; have hfz18_2 := kfr BK108.out 2; have hfz18_3 := kfr BK108.out 3; have hfz18_4 := kfr BK108.out 4) | (go_at_call 43; (with_reducible refine (spec_l00In.calls a0_2 1 8 false _ A6.out).mono ?_); rintro e w' ⟨rfl, ⟨nd, rfl⟩⟩))
    go_meet
    case rel => exact ⟨_, (true), (by first | rfl | (simp; done) | (simp [*]; done)), H', ⟨by first | omega | exact Nat.le_refl _⟩, ⟨by (with_reducible repeat (first | apply kdn | apply kdr | apply kal)); exact BK108.out⟩, ⟨by repeat (first | (with_reducible first | exact HB.out | apply bal | apply pdn | apply bd1 | refine bst ?_ GE108.out) | exact HB.out)⟩⟩
  ·replace c5 := Bool.eq_false_iff.mpr c5
   subst c5
   have H1 : (spec_l05OK.j0 k true a0_0 a0_1 a0_2 a0_3 l0_4) = some r := by rw [if_neg (show ¬ (false = true) by decide)] at H; exact H
   clear H
   have H := H1
   clear H1
   have H' := am H
   clear H
   have hcz19_0 : w3.cell? ⟨gb108, 0, none⟩ = some (.int .i64 a0_0) := (kce BK108.out 0).trans rfl
   have hcz19_1 : w3.cell? ⟨gb108, 1, none⟩ = some (.int .i64 a0_1) := (kce BK108.out 1).trans rfl
   have hcz19_2 : w3.cell? ⟨gb108, 2, none⟩ = some (.int .i64 a0_2) := (kce BK108.out 2).trans rfl
   have hcz19_3 : w3.cell? ⟨gb108, 3, none⟩ = some (.int .i64 a0_3) := (kce BK108.out 3).trans rfl
   have hcz19_4 : w3.cell? ⟨gb108, 4, none⟩ = some (.slice A0_4 l0_4.length c0_4) := (kce BK108.out 4).trans rfl
   have hfz19_0 := kfr BK108.out 0
   have hfz19_1 := kfr BK108.out 1
   have hfz19_2 := kfr BK108.out 2
   have hfz19_3 := kfr BK108.out 3
   have hfz19_4 := kfr BK108.out 4
   go_wp2_with (first | ((with_reducible refine gate_callee (f := 70) rfl ?_); refine goesL_ (some 6) rfl rfl Try.func70 (by kernel_rfl) rfl #[.agg #[.int .i64 a0_0, .int .i64 a0_1]] rfl (by (try simp only [mta, mco, mni]); first | done | rfl | (simp only [lnd, lnt]; rfl)) ?_; (with_reducible refine (spec_l04Code.calls a0_0 a0_1 false _ A4.out).mono ?_); rintro e w20 ⟨rfl, hb⟩; refine ⟨_, rfl, ?_⟩; have n0_ := am (kbb (g := gb108) (o := .cells #[.int .i64 a0_0, .int .i64 a0_1, .int .i64 a0_2, .int .i64 a0_3, .slice A0_4 l0_4.length c0_4] 32 (0, 0)) (by (with_reducible repeat (first | apply kdn | apply kdr | apply kal)); exact BK108.out) hb); have n1_ := am (below_step (by repeat (first | (with_reducible first | exact HB.out | apply bal | apply pdn | apply bd1 | refine bst ?_ GE108.out) | exact HB.out)) hb); clear BK108; clear HB; have BK108 := n0_; have HB := n1_; clear n0_ n1_; (try clear hb); (try clear hb2); (try clear hk); (try clear hi)))
   go_meet
   case rel => exact ⟨_, (true), (by first | rfl | (simp; done) | (simp [*]; done)), H', ⟨by first | omega | exact Nat.le_refl _⟩, ⟨by (with_reducible repeat (first | apply kdn | apply kdr | apply kal)); exact BK108.out⟩, ⟨by repeat (first | (with_reducible first | exact HB.out | apply bal | apply pdn | apply bd1 | refine bst ?_ GE108.out) | exact HB.out)⟩⟩
 case rest =>
  clear HC2
  obtain ⟨kq, x32_1, rfl, HA, HJ1, BK108, HB⟩ := hcut
  cases kq with
  | zero => exact absurd HA.out (by simp [spec_l05OK.j0])
  | succ kj1 =>
   have H := HA.out
   clear HA
   simp only [spec_l05OK.j0] at H
   by_cases c21 : x32_1 = true
   ·subst c21
    have H1 : (some false) = some r := by rw [if_pos rfl] at H; exact H
    clear H
    have H := H1
    clear H1
    obtain rfl := Option.some.inj H
    go_wp2
    go_ret
    exact ⟨by first | rfl | (simp [errW_none, errW_some] <;> rfl) | (simp [*, errW_none, errW_some] <;> rfl), by repeat (first | (with_reducible first | exact HB.out | apply bal | apply pdn | apply bd1 | refine bst ?_ GE108.out) | exact HB.out)⟩
   ·replace c21 := Bool.eq_false_iff.mpr c21
    subst c21
    have H1 : (spec_l05OK.l0 kj1 0 a0_0 a0_1 a0_2 a0_3 l0_4) = some r := by rw [if_neg (show ¬ (false = true) by decide)] at H; exact H
    clear H
    have H := H1
    clear H1
    have H' := am H
    clear H
    go_wp2
    go_loopg [3] kj1 (fun kq v3 w' => ∃ (x3_2 : Int), v3 = .int .i64 x3_2 ∧ Aside0 (spec_l05OK.l0 kq x3_2 a0_0 a0_1 a0_2 a0_3 l0_4 = some r) ∧ Aside0 (kq ≤ kj1) ∧ Aside0 (w'.heap[gb108]? = some (.cells #[.int .i64 a0_0, .int .i64 a0_1, .int .i64 a0_2, .int .i64 a0_3, (.slice A0_4 l0_4.length c0_4)] 32 (0, 0))) ∧ Aside0 (Below w.heap.size w w'))
    case atStart => exact ⟨(0), (by first | rfl | (simp; done) | (simp [*]; done)), H', ⟨Nat.le_refl _⟩, ⟨by (with_reducible repeat (first | apply kdn | apply kdr | apply kal)); exact BK108.out⟩, ⟨by repeat (first | (with_reducible first | exact HB.out | apply bal | apply pdn | apply bd1 | refine bst ?_ GE108.out) | exact HB.out)⟩⟩
    case round =>
     clear H'
     obtain ⟨x3_2, rfl, HA, HK2, BK108, HB⟩ := hrel
     cases gk with
     | zero => exact absurd HA.out (by simp [spec_l05OK.l0])
     | succ k2 =>
      have H := HA.out
      clear HA
      simp only [spec_l05OK.l0] at H
      by_cases c22 : x3_2 < (l0_4.length : Int)
      ·rw [if_pos c22] at H
       have c22b0 : decide (x3_2 < (l0_4.length : Int)) = true := decide_eq_true c22
       clear c22
       by_cases c23 : 0 ≤ x3_2
       ·rw [if_pos c23] at H
        have c23b0 : decide (0 ≤ x3_2) = true := decide_eq_true c23
        clear c23
        replace H := Option.bind_eq_some_iff.mp H
        obtain ⟨t113, A240, H⟩ := H
        replace H : (if ((rdOf ByteArray.empty l0_4 x3_2).size : Int) = t113 then (spec_l05OK.l0 k2 (wrap64 (x3_2 + 1)) a0_0 a0_1 a0_2 a0_3 l0_4) else (some false)) = some r := H
        have A24 := am A240
        clear A240
        by_cases c25 : ((rdOf ByteArray.empty l0_4 x3_2).size : Int) = t113
        ·rw [if_pos c25] at H
         have c25b0 : (((rdOf ByteArray.empty l0_4 x3_2).size : Int) == t113) = true := beq_iff_eq.mpr c25
         have c25b1 : (((rdOf ByteArray.empty l0_4 x3_2).size : Int) != t113) = false := bne_eq_false_iff_eq.mpr c25
         clear c25
         have H' := am H
         clear H
         have hcz26_0 : wr.cell? ⟨gb108, 0, none⟩ = some (.int .i64 a0_0) := (kce BK108.out 0).trans rfl
         have hcz26_1 : wr.cell? ⟨gb108, 1, none⟩ = some (.int .i64 a0_1) := (kce BK108.out 1).trans rfl
         have hcz26_2 : wr.cell? ⟨gb108, 2, none⟩ = some (.int .i64 a0_2) := (kce BK108.out 2).trans rfl
         have hcz26_3 : wr.cell? ⟨gb108, 3, none⟩ = some (.int .i64 a0_3) := (kce BK108.out 3).trans rfl
         have hcz26_4 : wr.cell? ⟨gb108, 4, none⟩ = some (.slice A0_4 l0_4.length c0_4) := (kce BK108.out 4).trans rfl
         have hfz26_0 := kfr BK108.out 0
         have hfz26_1 := kfr BK108.out 1
         have hfz26_2 := kfr BK108.out 2
         have hfz26_3 := kfr BK108.out 3
         have hfz26_4 := kfr BK108.out 4
         try go_wp2
         have n0_ := am (kdr BK108.out)
         have n1_ := am (bd1 HB.out)
         clear BK108
         clear HB
         have BK108 := n0_
         have HB := n1_
         clear n0_ n1_
         have p112 : 0 ≤ (x3_2 : Int) := of_decide_eq_true (by first | (with_reducible assumption) | assumption)
         have q112 : x3_2 < (l0_4.length : Int) := of_decide_eq_true (by first | (with_reducible assumption) | assumption)
         obtain ⟨ad112, e112, hx112_0⟩ := Kd.at_string HR0_4.out x3_2 p112 q112
         have hw112_0 := hx112_0
         cases e112
         replace hx112_0 := (HB.out.cell (blc w _ hx112_0)).trans hx112_0
         replace p112 := eq_true p112
         replace q112 := eq_true q112
         refine start_ (n := 14) (S := fun w' => w'.cell? ⟨gb108, 0, none⟩ = some (.int .i64 a0_0) ∧ w'.cell? ⟨gb108, 1, none⟩ = some (.int .i64 a0_1) ∧ w'.cell? ⟨gb108, 2, none⟩ = some (.int .i64 a0_2) ∧ w'.cell? ⟨gb108, 3, none⟩ = some (.int .i64 a0_3) ∧ w'.cell? ⟨gb108, 4, none⟩ = some (.slice (some ad112) l0_4.length c0_4) ∧ w'.cell? (ad112.add (x3_2).toNat) = some (.string (rdOf ByteArray.empty l0_4 x3_2))) (ds := []) #[false, false, false, false, false, false, false, false, false, false, false, false, false, false] (by kernel_rfl) rfl rfl ⟨(kce BK108.out 0).trans rfl, (kce BK108.out 1).trans rfl, (kce BK108.out 2).trans rfl, (kce BK108.out 3).trans rfl, (kce BK108.out 4).trans rfl, ((HB.out.cell (blc w _ hw112_0)).trans hw112_0)⟩ (fun hHeld => ?_); refine with_tabW spec_l05OK.tab6 spec_l05OK.bits6 (fun HT_ HW_ => ?_)
         generalize wr.drew = w27 at BK108 HB hx112_0 hHeld ⊢
         refine pure_ (i := 0) (N := some 40) (v := ?_) (a' := ?_) #[true, false, false, false, false, false, false, false, false, false, false, false, false, false] rfl rfl (any_of HT_.out (by kernel_rfl)) (fun _ _ _ h => h) (Or.inl ⟨by rfl, ?_⟩) ?_ ?_
         rotate_left
         ·intro w'
          go_simp
          with_reducible rfl
         rotate_left
         ·simp only [Act.put, sit, scz, scs, i64_w, i32_w]
          rfl
         refine pure_ (i := 2) (N := some 42) (v := ?_) (a' := ?_) #[true, false, true, false, false, false, false, false, false, false, false, false, false, false] rfl rfl (any_of HT_.out (by kernel_rfl)) (fun _ _ _ h => h) (Or.inl ⟨by rfl, ?_⟩) ?_ ?_
         rotate_left
         ·intro w'
          go_simp
          with_reducible rfl
         rotate_left
         ·simp only [Act.put, sit, scz, scs, i64_w, i32_w]
          rfl
         refine pure_ (i := 6) (N := some 46) (v := ?_) (a' := ?_) #[true, false, true, false, false, false, true, false, false, false, false, false, false, false] rfl rfl (any_of HT_.out (by kernel_rfl)) (fun _ _ _ h => h) (Or.inl ⟨by rfl, ?_⟩) ?_ ?_
         rotate_left
         ·intro w'
          go_simp
          with_reducible rfl
         rotate_left
         ·simp only [Act.put, sit, scz, scs, i64_w, i32_w]
          rfl
         refine pure_ (i := 8) (N := some 48) (v := ?_) (a' := ?_) #[true, false, true, false, false, false, true, false, true, false, false, false, false, false] rfl rfl (any_of HT_.out (by kernel_rfl)) (fun _ _ _ h => h) (Or.inl ⟨by rfl, ?_⟩) ?_ ?_
         rotate_left
         ·intro w'
          go_simp
          with_reducible rfl
         rotate_left
         ·simp only [Act.put, sit, scz, scs, i64_w, i32_w]
          rfl
         refine pure_ (i := 10) (N := some 50) (v := ?_) (a' := ?_) #[true, false, true, false, false, false, true, false, true, false, true, false, false, false] rfl rfl (any_of HT_.out (by kernel_rfl)) (fun _ _ _ h => h) (Or.inl ⟨by rfl, ?_⟩) ?_ ?_
         rotate_left
         ·intro w'
          go_simp
          with_reducible rfl
         rotate_left
         ·simp only [Act.put, sit, scz, scs, i64_w, i32_w]
          rfl
         refine take_ (i := 1) (N := some 41) (v := ?_) (a' := ?_) #[true, true, true, false, false, false, true, false, true, false, true, false, false, false] rfl rfl (take_ofW HT_.out HW_.out (by kernel_rfl)) (fun _ _ _ h => h) (Or.inl ⟨by rfl, ?_⟩) hHeld ?_ ?_
         rotate_left
         ·rintro w' ⟨s0, s1, s2, s3, s4, s5⟩
          go_simp
          with_reducible rfl
         rotate_left
         ·simp only [Act.put, sit, scz, scs, i64_w, i32_w]
          rfl
         refine pure_ (i := 3) (N := some 43) (v := ?_) (a' := ?_) #[true, true, true, true, false, false, true, false, true, false, true, false, false, false] rfl rfl (any_of HT_.out (by kernel_rfl)) (fun _ _ _ h => h) (Or.inl ⟨by rfl, ?_⟩) ?_ ?_
         rotate_left
         ·intro w'
          go_simp
          with_reducible rfl
         rotate_left
         ·simp only [Act.put, sit, scz, scs, i64_w, i32_w]
          rfl
         refine take_ (i := 4) (N := some 44) (v := ?_) (a' := ?_) #[true, true, true, true, true, false, true, false, true, false, true, false, false, false] rfl rfl (take_ofW HT_.out HW_.out (by kernel_rfl)) (fun _ _ _ h => h) (Or.inl ⟨by rfl, ?_⟩) hHeld ?_ ?_
         rotate_left
         ·rintro w' ⟨s0, s1, s2, s3, s4, s5⟩
          go_simp
          with_reducible rfl
         rotate_left
         ·simp only [Act.put, sit, scz, scs, i64_w, i32_w]
          rfl
         refine pure_ (i := 5) (N := some 45) (v := ?_) (a' := ?_) #[true, true, true, true, true, true, true, false, true, false, true, false, false, false] rfl rfl (any_of HT_.out (by kernel_rfl)) (fun _ _ _ h => h) (Or.inl ⟨by rfl, ?_⟩) ?_ ?_
         rotate_left
         ·intro w'
          go_simp
          with_reducible rfl
         rotate_left
         ·simp only [Act.put, sit, scz, scs, i64_w, i32_w]
          rfl
         refine take_ (i := 7) (N := some 47) (v := ?_) (a' := ?_) #[true, true, true, true, true, true, true, true, true, false, true, false, false, false] rfl rfl (take_ofW HT_.out HW_.out (by kernel_rfl)) (fun _ _ _ h => h) (Or.inl ⟨by rfl, ?_⟩) hHeld ?_ ?_
         rotate_left
         ·rintro w' ⟨s0, s1, s2, s3, s4, s5⟩
          go_simp
          with_reducible rfl
         rotate_left
         ·simp only [Act.put, sit, scz, scs, i64_w, i32_w]
          rfl
         refine take_ (i := 9) (N := some 49) (v := ?_) (a' := ?_) #[true, true, true, true, true, true, true, true, true, true, true, false, false, false] rfl rfl (take_ofW HT_.out HW_.out (by kernel_rfl)) (fun _ _ _ h => h) (Or.inl ⟨by rfl, ?_⟩) hHeld ?_ ?_
         rotate_left
         ·rintro w' ⟨s0, s1, s2, s3, s4, s5⟩
          go_simp
          with_reducible rfl
         rotate_left
         ·simp only [Act.put, sit, scz, scs, i64_w, i32_w]
          rfl
         refine take_ (i := 11) (N := some 51) (v := ?_) (a' := ?_) #[true, true, true, true, true, true, true, true, true, true, true, true, false, false] rfl rfl (take_ofW HT_.out HW_.out (by kernel_rfl)) (fun _ _ _ h => h) (Or.inl ⟨by rfl, ?_⟩) hHeld ?_ ?_
         rotate_left
         ·rintro w' ⟨s0, s1, s2, s3, s4, s5⟩
          go_simp
          with_reducible rfl
         rotate_left
         ·simp only [Act.put, sit, scz, scs, i64_w, i32_w]
          rfl
         refine one_ (i := 12) (N := some 52) #[true, true, true, true, true, true, true, true, true, true, true, true, true, false] rfl rfl (one_of HT_.out (by kernel_rfl)) (by decide) (fun K hK => ?_)
         refine goes_ Try.func46 (by kernel_rfl) rfl #[.agg #[.int .i64 a0_0, .int .i64 a0_1], .int .i64 a0_2, .int .i64 a0_3] (by rfl) rfl rfl (by (try simp only [mta, mco, mni]); first | done | rfl | (simp only [lnd, lnt]; rfl)) ?_
         with_reducible refine (spec_l05Tall.calls a0_0 a0_1 a0_2 a0_3 t113 _ A24.out).mono ?_
         rintro e w28 ⟨rfl, hb⟩
         refine ⟨_, rfl, ?_⟩
         have n0_ := am (kbb (g := gb108) (o := .cells #[.int .i64 a0_0, .int .i64 a0_1, .int .i64 a0_2, .int .i64 a0_3, .slice (some ad112) l0_4.length c0_4] 32 (0, 0)) (by (with_reducible repeat (first | apply kdn | apply kdr | apply kal)); exact BK108.out) hb)
         have n1_ := am (below_step (by repeat (first | (with_reducible first | exact HB.out | apply bal | apply pdn | apply bd1 | refine bst ?_ GE108.out) | exact HB.out)) hb)
         clear BK108
         clear HB
         have BK108 := n0_
         have HB := n1_
         clear n0_ n1_
         refine hK.out _ _ ⟨(kce BK108.out 0).trans rfl, (kce BK108.out 1).trans rfl, (kce BK108.out 2).trans rfl, (kce BK108.out 3).trans rfl, (kce BK108.out 4).trans rfl, ((HB.out.cell (blc w _ hw112_0)).trans hw112_0)⟩ (fun hHeld => ?_)
         clear hK K
         refine norm_ (a' := ?_) ?_ ?_
         rotate_left
         ·show Act.put _ (some 52) _ = _
          simp only [Act.put, sit, scz, scs, i64_w, i32_w]
          rfl
         refine pure_ (i := 13) (N := some 53) (v := ?_) (a' := ?_) #[true, true, true, true, true, true, true, true, true, true, true, true, true, true] rfl rfl (any_of HT_.out (by kernel_rfl)) (fun _ _ _ h => h) (Or.inl ⟨by rfl, ?_⟩) ?_ ?_
         rotate_left
         ·intro w'
          go_simp
          with_reducible rfl
         rotate_left
         ·simp only [Act.put, sit, scz, scs, i64_w, i32_w]
          rfl
         refine done_ (done_of HT_.out (by kernel_rfl)) ?_
         try go_wp2
         go_roundg k2
         case measure => have := HJ1.out; have := HK2.out; omega
         case rel => exact ⟨(wrap64 (x3_2 + 1)), (by first | rfl | (simp; done) | (simp [*]; done)), H', ⟨by have := HJ1.out; have := HK2.out; omega⟩, ⟨by (with_reducible repeat (first | apply kdn | apply kdr | apply kal)); exact BK108.out⟩, ⟨by repeat (first | (with_reducible first | exact HB.out | apply bal | apply pdn | apply bd1 | refine bst ?_ GE108.out) | exact HB.out)⟩⟩
        ·rw [if_neg c25] at H
         have c25b0 : (((rdOf ByteArray.empty l0_4 x3_2).size : Int) == t113) = false := beq_eq_false_iff_ne.mpr c25
         have c25b1 : (((rdOf ByteArray.empty l0_4 x3_2).size : Int) != t113) = true := bne_iff_ne.mpr c25
         obtain rfl := Option.some.inj H
         have hcz29_0 : wr.cell? ⟨gb108, 0, none⟩ = some (.int .i64 a0_0) := (kce BK108.out 0).trans rfl
         have hcz29_1 : wr.cell? ⟨gb108, 1, none⟩ = some (.int .i64 a0_1) := (kce BK108.out 1).trans rfl
         have hcz29_2 : wr.cell? ⟨gb108, 2, none⟩ = some (.int .i64 a0_2) := (kce BK108.out 2).trans rfl
         have hcz29_3 : wr.cell? ⟨gb108, 3, none⟩ = some (.int .i64 a0_3) := (kce BK108.out 3).trans rfl
         have hcz29_4 : wr.cell? ⟨gb108, 4, none⟩ = some (.slice A0_4 l0_4.length c0_4) := (kce BK108.out 4).trans rfl
         have hfz29_0 := kfr BK108.out 0
         have hfz29_1 := kfr BK108.out 1
         have hfz29_2 := kfr BK108.out 2
         have hfz29_3 := kfr BK108.out 3
         have hfz29_4 := kfr BK108.out 4
         try go_wp2
         have n0_ := am (kdr BK108.out)
         have n1_ := am (bd1 HB.out)
         clear BK108
         clear HB
         have BK108 := n0_
         have HB := n1_
         clear n0_ n1_
         have p112 : 0 ≤ (x3_2 : Int) := of_decide_eq_true (by first | (with_reducible assumption) | assumption)
         have q112 : x3_2 < (l0_4.length : Int) := of_decide_eq_true (by first | (with_reducible assumption) | assumption)
         obtain ⟨ad112, e112, hx112_0⟩ := Kd.at_string HR0_4.out x3_2 p112 q112
         have hw112_0 := hx112_0
         cases e112
         replace hx112_0 := (HB.out.cell (blc w _ hx112_0)).trans hx112_0
         replace p112 := eq_true p112
         replace q112 := eq_true q112
         refine start_ (n := 14) (S := fun w' => w'.cell? ⟨gb108, 0, none⟩ = some (.int .i64 a0_0) ∧ w'.cell? ⟨gb108, 1, none⟩ = some (.int .i64 a0_1) ∧ w'.cell? ⟨gb108, 2, none⟩ = some (.int .i64 a0_2) ∧ w'.cell? ⟨gb108, 3, none⟩ = some (.int .i64 a0_3) ∧ w'.cell? ⟨gb108, 4, none⟩ = some (.slice (some ad112) l0_4.length c0_4) ∧ w'.cell? (ad112.add (x3_2).toNat) = some (.string (rdOf ByteArray.empty l0_4 x3_2))) (ds := []) #[false, false, false, false, false, false, false, false, false, false, false, false, false, false] (by kernel_rfl) rfl rfl ⟨(kce BK108.out 0).trans rfl, (kce BK108.out 1).trans rfl, (kce BK108.out 2).trans rfl, (kce BK108.out 3).trans rfl, (kce BK108.out 4).trans rfl, ((HB.out.cell (blc w _ hw112_0)).trans hw112_0)⟩ (fun hHeld => ?_); refine with_tabW spec_l05OK.tab6 spec_l05OK.bits6 (fun HT_ HW_ => ?_)
         generalize wr.drew = w30 at BK108 HB hx112_0 hHeld ⊢
         refine pure_ (i := 0) (N := some 40) (v := ?_) (a' := ?_) #[true, false, false, false, false, false, false, false, false, false, false, false, false, false] rfl rfl (any_of HT_.out (by kernel_rfl)) (fun _ _ _ h => h) (Or.inl ⟨by rfl, ?_⟩) ?_ ?_
         rotate_left
         ·intro w'
          go_simp
          with_reducible rfl
         rotate_left
         ·simp only [Act.put, sit, scz, scs, i64_w, i32_w]
          rfl
         refine pure_ (i := 2) (N := some 42) (v := ?_) (a' := ?_) #[true, false, true, false, false, false, false, false, false, false, false, false, false, false] rfl rfl (any_of HT_.out (by kernel_rfl)) (fun _ _ _ h => h) (Or.inl ⟨by rfl, ?_⟩) ?_ ?_
         rotate_left
         ·intro w'
          go_simp
          with_reducible rfl
         rotate_left
         ·simp only [Act.put, sit, scz, scs, i64_w, i32_w]
          rfl
         refine pure_ (i := 6) (N := some 46) (v := ?_) (a' := ?_) #[true, false, true, false, false, false, true, false, false, false, false, false, false, false] rfl rfl (any_of HT_.out (by kernel_rfl)) (fun _ _ _ h => h) (Or.inl ⟨by rfl, ?_⟩) ?_ ?_
         rotate_left
         ·intro w'
          go_simp
          with_reducible rfl
         rotate_left
         ·simp only [Act.put, sit, scz, scs, i64_w, i32_w]
          rfl
         refine pure_ (i := 8) (N := some 48) (v := ?_) (a' := ?_) #[true, false, true, false, false, false, true, false, true, false, false, false, false, false] rfl rfl (any_of HT_.out (by kernel_rfl)) (fun _ _ _ h => h) (Or.inl ⟨by rfl, ?_⟩) ?_ ?_
         rotate_left
         ·intro w'
          go_simp
          with_reducible rfl
         rotate_left
         ·simp only [Act.put, sit, scz, scs, i64_w, i32_w]
          rfl
         refine pure_ (i := 10) (N := some 50) (v := ?_) (a' := ?_) #[true, false, true, false, false, false, true, false, true, false, true, false, false, false] rfl rfl (any_of HT_.out (by kernel_rfl)) (fun _ _ _ h => h) (Or.inl ⟨by rfl, ?_⟩) ?_ ?_
         rotate_left
         ·intro w'
          go_simp
          with_reducible rfl
         rotate_left
         ·simp only [Act.put, sit, scz, scs, i64_w, i32_w]
          rfl
         refine take_ (i := 1) (N := some 41) (v := ?_) (a' := ?_) #[true, true, true, false, false, false, true, false, true, false, true, false, false, false] rfl rfl (take_ofW HT_.out HW_.out (by kernel_rfl)) (fun _ _ _ h => h) (Or.inl ⟨by rfl, ?_⟩) hHeld ?_ ?_
         rotate_left
         ·rintro w' ⟨s0, s1, s2, s3, s4, s5⟩
          go_simp
          with_reducible rfl
         rotate_left
         ·simp only [Act.put, sit, scz, scs, i64_w, i32_w]
          rfl
         refine pure_ (i := 3) (N := some 43) (v := ?_) (a' := ?_) #[true, true, true, true, false, false, true, false, true, false, true, false, false, false] rfl rfl (any_of HT_.out (by kernel_rfl)) (fun _ _ _ h => h) (Or.inl ⟨by rfl, ?_⟩) ?_ ?_
         rotate_left
         ·intro w'
          go_simp
          with_reducible rfl
         rotate_left
         ·simp only [Act.put, sit, scz, scs, i64_w, i32_w]
          rfl
         refine take_ (i := 4) (N := some 44) (v := ?_) (a' := ?_) #[true, true, true, true, true, false, true, false, true, false, true, false, false, false] rfl rfl (take_ofW HT_.out HW_.out (by kernel_rfl)) (fun _ _ _ h => h) (Or.inl ⟨by rfl, ?_⟩) hHeld ?_ ?_
         rotate_left
         ·rintro w' ⟨s0, s1, s2, s3, s4, s5⟩
          go_simp
          with_reducible rfl
         rotate_left
         ·simp only [Act.put, sit, scz, scs, i64_w, i32_w]
          rfl
         refine pure_ (i := 5) (N := some 45) (v := ?_) (a' := ?_) #[true, true, true, true, true, true, true, false, true, false, true, false, false, false] rfl rfl (any_of HT_.out (by kernel_rfl)) (fun _ _ _ h => h) (Or.inl ⟨by rfl, ?_⟩) ?_ ?_
         rotate_left
         ·intro w'
          go_simp
          with_reducible rfl
         rotate_left
         ·simp only [Act.put, sit, scz, scs, i64_w, i32_w]
          rfl
         refine take_ (i := 7) (N := some 47) (v := ?_) (a' := ?_) #[true, true, true, true, true, true, true, true, true, false, true, false, false, false] rfl rfl (take_ofW HT_.out HW_.out (by kernel_rfl)) (fun _ _ _ h => h) (Or.inl ⟨by rfl, ?_⟩) hHeld ?_ ?_
         rotate_left
         ·rintro w' ⟨s0, s1, s2, s3, s4, s5⟩
          go_simp
          with_reducible rfl
         rotate_left
         ·simp only [Act.put, sit, scz, scs, i64_w, i32_w]
          rfl
         refine take_ (i := 9) (N := some 49) (v := ?_) (a' := ?_) #[true, true, true, true, true, true, true, true, true, true, true, false, false, false] rfl rfl (take_ofW HT_.out HW_.out (by kernel_rfl)) (fun _ _ _ h => h) (Or.inl ⟨by rfl, ?_⟩) hHeld ?_ ?_
         rotate_left
         ·rintro w' ⟨s0, s1, s2, s3, s4, s5⟩
          go_simp
          with_reducible rfl
         rotate_left
         ·simp only [Act.put, sit, scz, scs, i64_w, i32_w]
          rfl
         refine take_ (i := 11) (N := some 51) (v := ?_) (a' := ?_) #[true, true, true, true, true, true, true, true, true, true, true, true, false, false] rfl rfl (take_ofW HT_.out HW_.out (by kernel_rfl)) (fun _ _ _ h => h) (Or.inl ⟨by rfl, ?_⟩) hHeld ?_ ?_
         rotate_left
         ·rintro w' ⟨s0, s1, s2, s3, s4, s5⟩
          go_simp
          with_reducible rfl
         rotate_left
         ·simp only [Act.put, sit, scz, scs, i64_w, i32_w]
          rfl
         refine one_ (i := 12) (N := some 52) #[true, true, true, true, true, true, true, true, true, true, true, true, true, false] rfl rfl (one_of HT_.out (by kernel_rfl)) (by decide) (fun K hK => ?_)
         refine goes_ Try.func46 (by kernel_rfl) rfl #[.agg #[.int .i64 a0_0, .int .i64 a0_1], .int .i64 a0_2, .int .i64 a0_3] (by rfl) rfl rfl (by (try simp only [mta, mco, mni]); first | done | rfl | (simp only [lnd, lnt]; rfl)) ?_
         with_reducible refine (spec_l05Tall.calls a0_0 a0_1 a0_2 a0_3 t113 _ A24.out).mono ?_
         rintro e w31 ⟨rfl, hb⟩
         refine ⟨_, rfl, ?_⟩
         have n0_ := am (kbb (g := gb108) (o := .cells #[.int .i64 a0_0, .int .i64 a0_1, .int .i64 a0_2, .int .i64 a0_3, .slice (some ad112) l0_4.length c0_4] 32 (0, 0)) (by (with_reducible repeat (first | apply kdn | apply kdr | apply kal)); exact BK108.out) hb)
         have n1_ := am (below_step (by repeat (first | (with_reducible first | exact HB.out | apply bal | apply pdn | apply bd1 | refine bst ?_ GE108.out) | exact HB.out)) hb)
         clear BK108
         clear HB
         have BK108 := n0_
         have HB := n1_
         clear n0_ n1_
         refine hK.out _ _ ⟨(kce BK108.out 0).trans rfl, (kce BK108.out 1).trans rfl, (kce BK108.out 2).trans rfl, (kce BK108.out 3).trans rfl, (kce BK108.out 4).trans rfl, ((HB.out.cell (blc w _ hw112_0)).trans hw112_0)⟩ (fun hHeld => ?_)
         clear hK K
         refine norm_ (a' := ?_) ?_ ?_
         rotate_left
         ·show Act.put _ (some 52) _ = _
          simp only [Act.put, sit, scz, scs, i64_w, i32_w]
          rfl
         refine pure_ (i := 13) (N := some 53) (v := ?_) (a' := ?_) #[true, true, true, true, true, true, true, true, true, true, true, true, true, true] rfl rfl (any_of HT_.out (by kernel_rfl)) (fun _ _ _ h => h) (Or.inl ⟨by rfl, ?_⟩) ?_ ?_
         rotate_left
         ·intro w'
          go_simp
          with_reducible rfl
         rotate_left
         ·simp only [Act.put, sit, scz, scs, i64_w, i32_w]
          rfl
         refine done_ (done_of HT_.out (by kernel_rfl)) ?_
         try go_wp2
         go_ret
         exact ⟨by first | rfl | (simp [errW_none, errW_some] <;> rfl) | (simp [*, errW_none, errW_some] <;> rfl), by repeat (first | (with_reducible first | exact HB.out | apply bal | apply pdn | apply bd1 | refine bst ?_ GE108.out) | exact HB.out)⟩
       ·rw [if_neg c23] at H
        exact absurd H (by simp)
      ·rw [if_neg c22] at H
       have c22b0 : decide (x3_2 < (l0_4.length : Int)) = false := decide_eq_false c22
       clear c22
       obtain rfl := Option.some.inj H
       have hcz32_0 : wr.cell? ⟨gb108, 0, none⟩ = some (.int .i64 a0_0) := (kce BK108.out 0).trans rfl
       have hcz32_1 : wr.cell? ⟨gb108, 1, none⟩ = some (.int .i64 a0_1) := (kce BK108.out 1).trans rfl
       have hcz32_2 : wr.cell? ⟨gb108, 2, none⟩ = some (.int .i64 a0_2) := (kce BK108.out 2).trans rfl
       have hcz32_3 : wr.cell? ⟨gb108, 3, none⟩ = some (.int .i64 a0_3) := (kce BK108.out 3).trans rfl
       have hcz32_4 : wr.cell? ⟨gb108, 4, none⟩ = some (.slice A0_4 l0_4.length c0_4) := (kce BK108.out 4).trans rfl
       have hfz32_0 := kfr BK108.out 0
       have hfz32_1 := kfr BK108.out 1
       have hfz32_2 := kfr BK108.out 2
       have hfz32_3 := kfr BK108.out 3
       have hfz32_4 := kfr BK108.out 4
       go_wp2
       go_ret
       exact ⟨by first | rfl | (simp [errW_none, errW_some] <;> rfl) | (simp [*, errW_none, errW_some] <;> rfl), by repeat (first | (with_reducible first | exact HB.out | apply bal | apply pdn | apply bd1 | refine bst ?_ GE108.out) | exact HB.out)⟩

/-! ### spec_l05Cell: function 71 -/
def spec_l05Cell.f (a0_0 : Int) (a0_1 : Int) (a0_2 : Int) (a0_3 : Int) (l0_4 : List ByteArray) (a1 : Int) : Option (Int × Int) := if (wrap64 (a0_0 * a0_2)) = 0 then (none) else (if a0_2 = 0 then (none) else (some (wrap64 (Int.tdiv (Int.tmod a1 (wrap64 (a0_0 * a0_2))) a0_2), wrap64 ((wrap64 ((wrap64 (Int.tdiv a1 (wrap64 (a0_0 * a0_2)))) * a0_2)) + (Int.tmod (Int.tmod a1 (wrap64 (a0_0 * a0_2))) a0_2)))))
set_option maxHeartbeats 8000000 in
set_option maxRecDepth 100000 in
theorem spec_l05Cell.calls (a0_0 : Int) (a0_1 : Int) (a0_2 : Int) (a0_3 : Int) (A0_4 : Option Addr) (c0_4 : Nat) (l0_4 : List ByteArray) (a1 : Int) (r1 : Int) (r2 : Int) (w : World) (hr0_4 : Kd.C Kd.string w A0_4 l0_4.length l0_4) (hc0_4 : l0_4.length ≤ c0_4) (h : spec_l05Cell.f a0_0 a0_1 a0_2 a0_3 l0_4 a1 = some (r1, r2)) :
  Calls Try.prog 71 #[.agg #[.int .i64 a0_0, .int .i64 a0_1, .int .i64 a0_2, .int .i64 a0_3, .slice A0_4 l0_4.length c0_4], .int .i64 a1] w fun e w' => e = .returned (.tuple #[.int .i64 r1, .int .i64 r2]) ∧ Below w.heap.size w w' := by
 have hu32 := Try.underlying32
 have HR0_4 := am hr0_4
 have HC0_4 := am hc0_4
 clear hr0_4 hc0_4
 have HB := am (Below.refl w.heap.size w)
 have H : (if (wrap64 (a0_0 * a0_2)) = 0 then (none) else (if a0_2 = 0 then (none) else (some (wrap64 (Int.tdiv (Int.tmod a1 (wrap64 (a0_0 * a0_2))) a0_2), wrap64 ((wrap64 ((wrap64 (Int.tdiv a1 (wrap64 (a0_0 * a0_2)))) * a0_2)) + (Int.tmod (Int.tmod a1 (wrap64 (a0_0 * a0_2))) a0_2)))))) = some (r1, r2) := h
 clear h
 by_cases c3 : (wrap64 (a0_0 * a0_2)) = 0
 ·rw [if_pos c3] at H
  exact absurd H (by simp)
 ·rw [if_neg c3] at H
  have c3b0 : ((wrap64 (a0_0 * a0_2)) == 0) = false := beq_eq_false_iff_ne.mpr c3
  have c3b1 : ((wrap64 (a0_0 * a0_2)) != 0) = true := bne_iff_ne.mpr c3
  by_cases c4 : a0_2 = 0
  ·rw [if_pos c4] at H
   exact absurd H (by simp)
  ·rw [if_neg c4] at H
   have c4b0 : (a0_2 == 0) = false := beq_eq_false_iff_ne.mpr c4
   have c4b1 : (a0_2 != 0) = true := bne_iff_ne.mpr c4
   simp only [Option.some.injEq, Prod.mk.injEq] at H
   obtain ⟨rfl, rfl⟩ := H
   go_enter Try.func71, Try.ntmps71
   go_wp2_with (first | ((with_reducible refine gate_dst (N := 2) rfl ?_); refine box_event ?hg (N := 2) ?hd (cs := #[.int .i64 a0_0, .int .i64 a0_1, .int .i64 a0_2, .int .i64 a0_3, .slice A0_4 l0_4.length c0_4]) (t := 32) ?hr ?_; (case hd => rfl); (case hg => rfl); (case hr => first | (go_simp; done) | (go_simp; rfl)); intro gb114 hg w5 hbox hb; have n0_ := am (below_step (by repeat (first | (with_reducible first | exact HB.out | apply bal | apply pdn | apply bd1) | exact HB.out)) hb); have n1_ := am (hbox); have n2_ := am ((by rw [hg]; exact (below_size (by repeat (first | (with_reducible first | exact HB.out | apply bal | apply pdn | apply bd1) | exact HB.out))) : w.heap.size ≤ gb114)); have n3_ := am ((by rw [hg]; exact (below_size (by repeat (first | (with_reducible first | exact HB.out | apply bal | apply pdn | apply bd1) | exact HB.out))) : w.heap.size ≤ gb114)); clear HB; have HB := n0_; have BK114 := n1_; have GW114 := n2_; have GE114 := n3_; clear n0_ n1_ n2_ n3_; clear hb hbox hg; have hcz6_0 : w5.cell? ⟨gb114, 0, none⟩ = some (.int .i64 a0_0) := (kce BK114.out 0).trans rfl; have hcz6_1 : w5.cell? ⟨gb114, 1, none⟩ = some (.int .i64 a0_1) := (kce BK114.out 1).trans rfl; have hcz6_2 : w5.cell? ⟨gb114, 2, none⟩ = some (.int .i64 a0_2) := (kce BK114.out 2).trans rfl; have hcz6_3 : w5.cell? ⟨gb114, 3, none⟩ = some (.int .i64 a0_3) := (kce BK114.out 3).trans rfl; have hcz6_4 : w5.cell? ⟨gb114, 4, none⟩ = some (.slice A0_4 l0_4.length c0_4) := (kce BK114.out 4).trans rfl; have hfz6_0 := kfr BK114.out 0; have hfz6_1 := kfr BK114.out 1; have hfz6_2 := kfr BK114.out 2; have hfz6_3 := kfr BK114.out 3; have hfz6_4 := kfr BK114.out 4))
   repeat (go_quiet (first | ((with_reducible refine gate_dst (N := 2) rfl ?_); refine box_event ?hg (N := 2) ?hd (cs := #[.int .i64 a0_0, .int .i64 a0_1, .int .i64 a0_2, .int .i64 a0_3, .slice A0_4 l0_4.length c0_4]) (t := 32) ?hr ?_; (case hd => rfl); (case hg => rfl); (case hr => first | (go_simp; done) | (go_simp; rfl)); intro gb114 hg w5 hbox hb; have n0_ := am (below_step (by repeat (first | (with_reducible first | exact HB.out | apply bal | apply pdn | apply bd1) | exact HB.out)) hb); have n1_ := am (hbox); have n2_ := am ((by rw [hg]; exact (below_size (by repeat (first | (with_reducible first | exact HB.out | apply bal | apply pdn | apply bd1) | exact HB.out))) : w.heap.size ≤ gb114)); have n3_ := am ((by rw [hg]; exact (below_size (by repeat (first | (with_reducible first | exact HB.out | apply bal | apply pdn | apply bd1) | exact HB.out))) : w.heap.size ≤ gb114)); clear HB; have HB := n0_; have BK114 := n1_; have GW114 := n2_; have GE114 := n3_; clear n0_ n1_ n2_ n3_; clear hb hbox hg; have hcz6_0 : w5.cell? ⟨gb114, 0, none⟩ = some (.int .i64 a0_0) := (kce BK114.out 0).trans rfl; have hcz6_1 : w5.cell? ⟨gb114, 1, none⟩ = some (.int .i64 a0_1) := (kce BK114.out 1).trans rfl; have hcz6_2 : w5.cell? ⟨gb114, 2, none⟩ = some (.int .i64 a0_2) := (kce BK114.out 2).trans rfl; have hcz6_3 : w5.cell? ⟨gb114, 3, none⟩ = some (.int .i64 a0_3) := (kce BK114.out 3).trans rfl; have hcz6_4 : w5.cell? ⟨gb114, 4, none⟩ = some (.slice A0_4 l0_4.length c0_4) := (kce BK114.out 4).trans rfl; have hfz6_0 := kfr BK114.out 0; have hfz6_1 := kfr BK114.out 1; have hfz6_2 := kfr BK114.out 2; have hfz6_3 := kfr BK114.out 3; have hfz6_4 := kfr BK114.out 4)); try go_wp2_with (first | ((with_reducible refine gate_dst (N := 2) rfl ?_); refine box_event ?hg (N := 2) ?hd (cs := #[.int .i64 a0_0, .int .i64 a0_1, .int .i64 a0_2, .int .i64 a0_3, .slice A0_4 l0_4.length c0_4]) (t := 32) ?hr ?_; (case hd => rfl); (case hg => rfl); (case hr => first | (go_simp; done) | (go_simp; rfl)); intro gb114 hg w5 hbox hb; have n0_ := am (below_step (by repeat (first | (with_reducible first | exact HB.out | apply bal | apply pdn | apply bd1) | exact HB.out)) hb); have n1_ := am (hbox); have n2_ := am ((by rw [hg]; exact (below_size (by repeat (first | (with_reducible first | exact HB.out | apply bal | apply pdn | apply bd1) | exact HB.out))) : w.heap.size ≤ gb114)); have n3_ := am ((by rw [hg]; exact (below_size (by repeat (first | (with_reducible first | exact HB.out | apply bal | apply pdn | apply bd1) | exact HB.out))) : w.heap.size ≤ gb114)); clear HB; have HB := n0_; have BK114 := n1_; have GW114 := n2_; have GE114 := n3_; clear n0_ n1_ n2_ n3_; clear hb hbox hg; have hcz6_0 : w5.cell? ⟨gb114, 0, none⟩ = some (.int .i64 a0_0) := (kce BK114.out 0).trans rfl; have hcz6_1 : w5.cell? ⟨gb114, 1, none⟩ = some (.int .i64 a0_1) := (kce BK114.out 1).trans rfl; have hcz6_2 : w5.cell? ⟨gb114, 2, none⟩ = some (.int .i64 a0_2) := (kce BK114.out 2).trans rfl; have hcz6_3 : w5.cell? ⟨gb114, 3, none⟩ = some (.int .i64 a0_3) := (kce BK114.out 3).trans rfl; have hcz6_4 : w5.cell? ⟨gb114, 4, none⟩ = some (.slice A0_4 l0_4.length c0_4) := (kce BK114.out 4).trans rfl; have hfz6_0 := kfr BK114.out 0; have hfz6_1 := kfr BK114.out 1; have hfz6_2 := kfr BK114.out 2; have hfz6_3 := kfr BK114.out 3; have hfz6_4 := kfr BK114.out 4)))
   go_ret2
   exact ⟨by first | rfl | (simp [errW_none, errW_some] <;> rfl) | (simp [*, errW_none, errW_some] <;> rfl), by repeat (first | (with_reducible first | exact HB.out | apply bal | apply pdn | apply bd1 | refine bst ?_ GE114.out) | exact HB.out)⟩

end Go.Proofs.Ytmpakjgbbjkacaa.MFnExactWideBody
