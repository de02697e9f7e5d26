-- Written by a program of this session (wip/tools/myprint.py) over the kit's print: it is not the kit's print.
import Derived.Test.YtfeaokelfbjcdaaExtra
import Derived.Test.YtfeaokelfbjcdaaMFnHeardx0
import Derived.Test.YtfeaokelfbjcdaaMFnHeardx6
import Derived.Test.YtfeaokelfbjcdaaMFnHeardx7
namespace Go.Proofs.Ytfeaokelfbjcdaa.MFnHeard
open Go.RowKit Go.Proofs.YtfeaokelfbjcdaaW.PrintWords Go.Proofs.YtfeaokelfbjcdaaW.PrintLast Go.Proofs.YtfeaokelfbjcdaaW.PrintMore
open List renaming setIfInBounds_toArray → sit, set_cons_zero → scz, set_cons_succ → scs, map_toArray → mta, map_cons → mco, map_nil → mni, length_drop → lnd, length_take → lnt
open World renaming block_lt_of_cell? → blc
attribute [local go_sem] max2_int min2_int max_two min_two max_three min_three max_four min_four   -- for this text's walks alone
set_option linter.unusedVariables false
set_option linter.unusedSimpArgs false

/-! ### spec_l13Bent: function 69 -/
def spec_l13Bent.f (k : Nat) (s0_0 : List Int) (s0_1 : Int) (s0_2 : Int) : Option ((List (S43)) × Int × Int) := (spec_l00Src_pick.f s0_0 s0_1 s0_2 3).bind fun bt267 => ((spec_l13Draw.f k s0_0 bt267.2.1 bt267.2.2 (wrap64 (2 + bt267.1))).bind fun bt270 => (if (bt270.1.length : Int) = 0 then (some (bt270.1, bt270.2.1, bt270.2.2)) else ((spec_l00Src_pick.f s0_0 bt270.2.1 bt270.2.2 (bt270.1.length : Int)).bind fun bt275 => ((spec_l00Src_pick.f s0_0 bt275.2.1 bt275.2.2 14).bind fun bt278 => (if bt278.1 = 0 then (if 0 ≤ bt275.1 then (if bt275.1 < (bt270.1.length : Int) then ((spec_l00Src_pick.f s0_0 bt278.2.1 bt278.2.2 3).bind fun bt282 => (some ((bt270.1.set (bt275.1 : Int).toNat (⟨wrap64 (((rd_T43 bt270.1 bt275.1).f0) + (wrap64 (bt282.1 - 1))), (rd_T43 bt270.1 bt275.1).f1, (rd_T43 bt270.1 bt275.1).f2, (rd_T43 bt270.1 bt275.1).f3⟩ : S43)), bt282.2.1, bt282.2.2))) else (none)) else (none)) else (if bt278.1 = 1 then ((spec_l00Src_among.f s0_0 bt278.2.1 bt278.2.2 (([0, 60, 61] : List Int))).bind fun bt289 => (if 0 ≤ bt275.1 then (if bt275.1 < (bt270.1.length : Int) then (some ((bt270.1.set (bt275.1 : Int).toNat (⟨(rd_T43 bt270.1 bt275.1).f0, bt289.1, (rd_T43 bt270.1 bt275.1).f2, (rd_T43 bt270.1 bt275.1).f3⟩ : S43)), bt289.2.1, bt289.2.2)) else (none)) else (none))) else (if bt278.1 = 2 then (if 0 ≤ bt275.1 then (if bt275.1 < (bt270.1.length : Int) then (if ((rd_T43 bt270.1 bt275.1).f2).length < 17592186044416 then (some ((bt270.1.set (bt275.1 : Int).toNat (⟨(rd_T43 bt270.1 bt275.1).f0, (rd_T43 bt270.1 bt275.1).f1, (((rd_T43 bt270.1 bt275.1).f2) ++ [5]), (rd_T43 bt270.1 bt275.1).f3⟩ : S43)), bt278.2.1, bt278.2.2)) else (none)) else (none)) else (none)) else (if bt278.1 = 3 then (if 0 ≤ bt275.1 then (if bt275.1 < (bt270.1.length : Int) then ((spec_l00Src_among.f s0_0 bt278.2.1 bt278.2.2 (([16, (-2), 1] : List Int))).bind fun bt302 => (if 0 < (((rd_T43 bt270.1 bt275.1).f2).length : Int) then (some ((bt270.1.set (bt275.1 : Int).toNat (⟨(rd_T43 bt270.1 bt275.1).f0, (rd_T43 bt270.1 bt275.1).f1, (((rd_T43 bt270.1 bt275.1).f2).set (0 : Int).toNat bt302.1), (rd_T43 bt270.1 bt275.1).f3⟩ : S43)), bt302.2.1, bt302.2.2)) else (none))) else (none)) else (none)) else (some (bt270.1, bt278.2.1, bt278.2.2))))))))))
theorem spec_l13Bent.mono : ∀ a0 a1 a2 k, LeO (spec_l13Bent.f k a0 a1 a2) (spec_l13Bent.f (k + 1) a0 a1 a2) := by
 intro a0 a1 a2 k
 unfold spec_l13Bent.f
 repeat' first
   | (with_reducible exact spec_l13Draw.mono _ _ _ _ _)
   | (with_reducible exact LeO.refl _)
   | (with_reducible exact LeO.none _)
   | (with_reducible refine LeO.ite ?_ ?_)
   | (with_reducible refine LeO.bind ?_ (fun _ => ?_))
   | exact spec_l13Draw.mono _ _ _ _ _
   | exact LeO.none _
   | refine LeO.ite ?_ ?_
   | refine LeO.bind ?_ (fun _ => ?_)
def spec_l13Bent.T7 : Bool × List (List Nat × List Nat) := (true, [([], []), ([], []), ([0, 1], [0, 1]), ([2], [2]), ([3], [3]), ([], []), ([5], [5]), ([6], [6]), ([4, 7], [4, 7]), ([0, 1, 0, 1, 2, 3, 4, 5, 6, 7, 8], [0, 1]), ([9, 0, 1, 2, 3, 4, 5, 6, 7, 8], [9]), ([10, 8, 6, 0, 1, 2, 3, 4, 5, 6, 7, 8], [8, 10])])
def spec_l13Bent.B7 : List Nat := [0, 0, 3, 7, 15, 0, 32, 96, 255, 511, 1023, 2047]
theorem spec_l13Bent.tab7 : rtab .any (opsOf Try.f69 7) = spec_l13Bent.T7 := by kernel_rfl
theorem spec_l13Bent.bits7 : waitsOk spec_l13Bent.T7.2 spec_l13Bent.B7 = true := by kernel_rfl
def spec_l13Bent.T13 : Bool × List (List Nat × List Nat) := (true, [([], []), ([], []), ([0, 1], [0, 1]), ([2], [2]), ([3], [3]), ([], []), ([], []), ([5, 6], [5, 6]), ([4, 0, 1, 2, 3, 4, 5, 6, 7], [4]), ([8, 7, 7, 0, 1, 2, 3, 4, 5, 6, 7], [7, 8])])
def spec_l13Bent.B13 : List Nat := [0, 0, 3, 7, 15, 0, 0, 96, 255, 511]
theorem spec_l13Bent.tab13 : rtab .any (opsOf Try.f69 13) = spec_l13Bent.T13 := by kernel_rfl
theorem spec_l13Bent.bits13 : waitsOk spec_l13Bent.T13.2 spec_l13Bent.B13 = true := by kernel_rfl
set_option maxHeartbeats 8000000 in
set_option maxRecDepth 100000 in
theorem spec_l13Bent.calls (k : Nat) (g : Nat) (s0_0 : List Int) (s0_1 : Int) (s0_2 : Int) (r1 : List (S43)) (r2 : Int) (r3 : Int) (w0 w : World) (hI : IsS78 w0 w g s0_0 s0_1 s0_2) (hB : Below w0.heap.size w0 w) (h : spec_l13Bent.f k s0_0 s0_1 s0_2 = some (r1, r2, r3)) :
  Calls Try.prog 69 #[.pointer (some ⟨g, 0, none⟩)] w fun e w' => ∃ v0_ : Value, e = .returned (v0_) ∧ Kd.S k43 43 w' w.heap.size (fun _ => True) v0_ r1 ∧ IsS78 w0 w' g s0_0 r2 r3 ∧ Below w0.heap.size w0 w' ∧ KeepBut w w' g none := by
 have HI0 := am hI
 have HK := am (KeepBut.refl w g none)
 have HL := am hB.size
 clear hI
 have HW0 := am hB.size
 have HB := am hB
 clear hB
 have H : ((spec_l00Src_pick.f s0_0 s0_1 s0_2 3).bind fun bt267 => ((spec_l13Draw.f k s0_0 bt267.2.1 bt267.2.2 (wrap64 (2 + bt267.1))).bind fun bt270 => (if (bt270.1.length : Int) = 0 then (some (bt270.1, bt270.2.1, bt270.2.2)) else ((spec_l00Src_pick.f s0_0 bt270.2.1 bt270.2.2 (bt270.1.length : Int)).bind fun bt275 => ((spec_l00Src_pick.f s0_0 bt275.2.1 bt275.2.2 14).bind fun bt278 => (if bt278.1 = 0 then (if 0 ≤ bt275.1 then (if bt275.1 < (bt270.1.length : Int) then ((spec_l00Src_pick.f s0_0 bt278.2.1 bt278.2.2 3).bind fun bt282 => (some ((bt270.1.set (bt275.1 : Int).toNat (⟨wrap64 (((rd_T43 bt270.1 bt275.1).f0) + (wrap64 (bt282.1 - 1))), (rd_T43 bt270.1 bt275.1).f1, (rd_T43 bt270.1 bt275.1).f2, (rd_T43 bt270.1 bt275.1).f3⟩ : S43)), bt282.2.1, bt282.2.2))) else (none)) else (none)) else (if bt278.1 = 1 then ((spec_l00Src_among.f s0_0 bt278.2.1 bt278.2.2 (([0, 60, 61] : List Int))).bind fun bt289 => (if 0 ≤ bt275.1 then (if bt275.1 < (bt270.1.length : Int) then (some ((bt270.1.set (bt275.1 : Int).toNat (⟨(rd_T43 bt270.1 bt275.1).f0, bt289.1, (rd_T43 bt270.1 bt275.1).f2, (rd_T43 bt270.1 bt275.1).f3⟩ : S43)), bt289.2.1, bt289.2.2)) else (none)) else (none))) else (if bt278.1 = 2 then (if 0 ≤ bt275.1 then (if bt275.1 < (bt270.1.length : Int) then (if ((rd_T43 bt270.1 bt275.1).f2).length < 17592186044416 then (some ((bt270.1.set (bt275.1 : Int).toNat (⟨(rd_T43 bt270.1 bt275.1).f0, (rd_T43 bt270.1 bt275.1).f1, (((rd_T43 bt270.1 bt275.1).f2) ++ [5]), (rd_T43 bt270.1 bt275.1).f3⟩ : S43)), bt278.2.1, bt278.2.2)) else (none)) else (none)) else (none)) else (if bt278.1 = 3 then (if 0 ≤ bt275.1 then (if bt275.1 < (bt270.1.length : Int) then ((spec_l00Src_among.f s0_0 bt278.2.1 bt278.2.2 (([16, (-2), 1] : List Int))).bind fun bt302 => (if 0 < (((rd_T43 bt270.1 bt275.1).f2).length : Int) then (some ((bt270.1.set (bt275.1 : Int).toNat (⟨(rd_T43 bt270.1 bt275.1).f0, (rd_T43 bt270.1 bt275.1).f1, (((rd_T43 bt270.1 bt275.1).f2).set (0 : Int).toNat bt302.1), (rd_T43 bt270.1 bt275.1).f3⟩ : S43)), bt302.2.1, bt302.2.2)) else (none))) else (none)) else (none)) else (some (bt270.1, bt278.2.1, bt278.2.2))))))))))) = some (r1, r2, r3) := h
 clear h
 replace H := Option.bind_eq_some_iff.mp H
 obtain ⟨⟨t267, t268, t269⟩, A20, H⟩ := H
 replace H : ((spec_l13Draw.f k s0_0 t268 t269 (wrap64 (2 + t267))).bind fun bt270 => (if (bt270.1.length : Int) = 0 then (some (bt270.1, bt270.2.1, bt270.2.2)) else ((spec_l00Src_pick.f s0_0 bt270.2.1 bt270.2.2 (bt270.1.length : Int)).bind fun bt275 => ((spec_l00Src_pick.f s0_0 bt275.2.1 bt275.2.2 14).bind fun bt278 => (if bt278.1 = 0 then (if 0 ≤ bt275.1 then (if bt275.1 < (bt270.1.length : Int) then ((spec_l00Src_pick.f s0_0 bt278.2.1 bt278.2.2 3).bind fun bt282 => (some ((bt270.1.set (bt275.1 : Int).toNat (⟨wrap64 (((rd_T43 bt270.1 bt275.1).f0) + (wrap64 (bt282.1 - 1))), (rd_T43 bt270.1 bt275.1).f1, (rd_T43 bt270.1 bt275.1).f2, (rd_T43 bt270.1 bt275.1).f3⟩ : S43)), bt282.2.1, bt282.2.2))) else (none)) else (none)) else (if bt278.1 = 1 then ((spec_l00Src_among.f s0_0 bt278.2.1 bt278.2.2 (([0, 60, 61] : List Int))).bind fun bt289 => (if 0 ≤ bt275.1 then (if bt275.1 < (bt270.1.length : Int) then (some ((bt270.1.set (bt275.1 : Int).toNat (⟨(rd_T43 bt270.1 bt275.1).f0, bt289.1, (rd_T43 bt270.1 bt275.1).f2, (rd_T43 bt270.1 bt275.1).f3⟩ : S43)), bt289.2.1, bt289.2.2)) else (none)) else (none))) else (if bt278.1 = 2 then (if 0 ≤ bt275.1 then (if bt275.1 < (bt270.1.length : Int) then (if ((rd_T43 bt270.1 bt275.1).f2).length < 17592186044416 then (some ((bt270.1.set (bt275.1 : Int).toNat (⟨(rd_T43 bt270.1 bt275.1).f0, (rd_T43 bt270.1 bt275.1).f1, (((rd_T43 bt270.1 bt275.1).f2) ++ [5]), (rd_T43 bt270.1 bt275.1).f3⟩ : S43)), bt278.2.1, bt278.2.2)) else (none)) else (none)) else (none)) else (if bt278.1 = 3 then (if 0 ≤ bt275.1 then (if bt275.1 < (bt270.1.length : Int) then ((spec_l00Src_among.f s0_0 bt278.2.1 bt278.2.2 (([16, (-2), 1] : List Int))).bind fun bt302 => (if 0 < (((rd_T43 bt270.1 bt275.1).f2).length : Int) then (some ((bt270.1.set (bt275.1 : Int).toNat (⟨(rd_T43 bt270.1 bt275.1).f0, (rd_T43 bt270.1 bt275.1).f1, (((rd_T43 bt270.1 bt275.1).f2).set (0 : Int).toNat bt302.1), (rd_T43 bt270.1 bt275.1).f3⟩ : S43)), bt302.2.1, bt302.2.2)) else (none))) else (none)) else (none)) else (some (bt270.1, bt278.2.1, bt278.2.2)))))))))) = some (r1, r2, r3) := H
 have A2 := am A20
 clear A20
 replace H := Option.bind_eq_some_iff.mp H
 obtain ⟨⟨t270, t273, t274⟩, A30, H⟩ := H
 replace H : (if (t270.length : Int) = 0 then (some (t270, t273, t274)) else ((spec_l00Src_pick.f s0_0 t273 t274 (t270.length : Int)).bind fun bt275 => ((spec_l00Src_pick.f s0_0 bt275.2.1 bt275.2.2 14).bind fun bt278 => (if bt278.1 = 0 then (if 0 ≤ bt275.1 then (if bt275.1 < (t270.length : Int) then ((spec_l00Src_pick.f s0_0 bt278.2.1 bt278.2.2 3).bind fun bt282 => (some ((t270.set (bt275.1 : Int).toNat (⟨wrap64 (((rd_T43 t270 bt275.1).f0) + (wrap64 (bt282.1 - 1))), (rd_T43 t270 bt275.1).f1, (rd_T43 t270 bt275.1).f2, (rd_T43 t270 bt275.1).f3⟩ : S43)), bt282.2.1, bt282.2.2))) else (none)) else (none)) else (if bt278.1 = 1 then ((spec_l00Src_among.f s0_0 bt278.2.1 bt278.2.2 (([0, 60, 61] : List Int))).bind fun bt289 => (if 0 ≤ bt275.1 then (if bt275.1 < (t270.length : Int) then (some ((t270.set (bt275.1 : Int).toNat (⟨(rd_T43 t270 bt275.1).f0, bt289.1, (rd_T43 t270 bt275.1).f2, (rd_T43 t270 bt275.1).f3⟩ : S43)), bt289.2.1, bt289.2.2)) else (none)) else (none))) else (if bt278.1 = 2 then (if 0 ≤ bt275.1 then (if bt275.1 < (t270.length : Int) then (if ((rd_T43 t270 bt275.1).f2).length < 17592186044416 then (some ((t270.set (bt275.1 : Int).toNat (⟨(rd_T43 t270 bt275.1).f0, (rd_T43 t270 bt275.1).f1, (((rd_T43 t270 bt275.1).f2) ++ [5]), (rd_T43 t270 bt275.1).f3⟩ : S43)), bt278.2.1, bt278.2.2)) else (none)) else (none)) else (none)) else (if bt278.1 = 3 then (if 0 ≤ bt275.1 then (if bt275.1 < (t270.length : Int) then ((spec_l00Src_among.f s0_0 bt278.2.1 bt278.2.2 (([16, (-2), 1] : List Int))).bind fun bt302 => (if 0 < (((rd_T43 t270 bt275.1).f2).length : Int) then (some ((t270.set (bt275.1 : Int).toNat (⟨(rd_T43 t270 bt275.1).f0, (rd_T43 t270 bt275.1).f1, (((rd_T43 t270 bt275.1).f2).set (0 : Int).toNat bt302.1), (rd_T43 t270 bt275.1).f3⟩ : S43)), bt302.2.1, bt302.2.2)) else (none))) else (none)) else (none)) else (some (t270, bt278.2.1, bt278.2.2))))))))) = some (r1, r2, r3) := H
 have A3 := am A30
 clear A30
 by_cases c4 : (t270.length : Int) = 0
 ·rw [if_pos c4] at H
  have c4b0 : ((t270.length : Int) == 0) = true := beq_iff_eq.mpr c4
  have c4b1 : ((t270.length : Int) != 0) = false := bne_eq_false_iff_eq.mpr c4
  clear c4
  simp only [Option.some.injEq, Prod.mk.injEq] at H
  obtain ⟨rfl, rfl, rfl⟩ := H
  go_enter Try.func69, Try.ntmps69
  go_wp2_with (first | ((with_reducible refine gate_callee (f := 71) rfl ?_); refine goesL_ (some 7) rfl rfl Try.func71 (by kernel_rfl) rfl #[.pointer (some ⟨g, 0, none⟩), .int .i64 3] rfl (by (try simp only [mta, mco, mni]); first | done | rfl | (simp only [lnd, lnt]; rfl)) ?_; (with_reducible refine (spec_l00Src_pick.calls g s0_0 s0_1 s0_2 3 t267 t268 t269 w0 _ ?side1 ?side2 A2.out).mono ?_); (case side1 => repeat (first | (with_reducible first | exact HI0.out | apply IsS78.alloc | apply IsS78.drewN | apply IsS78.drew | apply IsS78.set_1 | apply IsS78.set_2) | exact HI0.out)); (case side2 => repeat (first | (with_reducible first | exact HB.out | apply bal | apply pdn | apply bd1 | refine bst ?_ (IsS78.ge HI0.out)) | exact HB.out)); rintro e w5 ⟨rfl, hi, hb, hk⟩; refine ⟨_, rfl, ?_⟩; have n0_ := am (KeepBut.trans (by repeat (first | (with_reducible first | exact HK.out | apply KeepBut.set_ | apply keep_drewN | apply keep_drew | apply keep_alloc) | exact HK.out)) hk (.inl rfl)); have n1_ := am (hb); have n2_ := am (hi); clear HK; clear HB; clear HI0; have HK := n0_; have HB := n1_; have HI0 := n2_; clear n0_ n1_ n2_; (try clear hb); (try clear hb2); (try clear hk); (try clear hi)) | ((with_reducible refine gate_callee (f := 91) rfl ?_); refine goesL_ (some 9) rfl rfl Try.func91 (by kernel_rfl) rfl #[.pointer (some ⟨g, 0, none⟩), .int .i64 (wrap64 (2 + t267))] rfl (by (try simp only [mta, mco, mni]); first | done | rfl | (simp only [lnd, lnt]; rfl)) ?_; (with_reducible refine (spec_l13Draw.calls k g s0_0 t268 t269 (wrap64 (2 + t267)) t270 t273 t274 w0 _ ?side1 ?side2 A3.out).mono ?_); (case side1 => repeat (first | (with_reducible first | exact HI0.out | apply IsS78.alloc | apply IsS78.drewN | apply IsS78.drew | apply IsS78.set_1 | apply IsS78.set_2) | exact HI0.out)); (case side2 => repeat (first | (with_reducible first | exact HB.out | apply bal | apply pdn | apply bd1 | refine bst ?_ (IsS78.ge HI0.out)) | exact HB.out)); rintro e w6 ⟨v271, rfl, ho0, hi, hb, hk⟩; refine ⟨_, rfl, ?_⟩; have n0_ := am (Kd.S_lower ho0 (keep_size (w := w) (g := g) (row := none) (by repeat (first | (with_reducible first | exact HK.out | apply KeepBut.set_ | apply keep_drewN | apply keep_drew | apply keep_alloc) | exact HK.out)))); have n1_ := am (KeepBut.trans (by repeat (first | (with_reducible first | exact HK.out | apply KeepBut.set_ | apply keep_drewN | apply keep_drew | apply keep_alloc) | exact HK.out)) hk (.inl rfl)); have n2_ := am (hb); have n3_ := am (hi); clear HK; clear HB; clear HI0; have HO272 := n0_; have HK := n1_; have HB := n2_; have HI0 := n3_; clear n0_ n1_ n2_ n3_; (try clear hb); (try clear hb2); (try clear hk); (try clear hi); (try clear ho0); obtain ⟨Ao7, co7, eo7⟩ := Kd.S_slice HO272.out; subst eo7))
  go_ret
  exact ⟨_, by first | rfl | (simp [errW_none, errW_some] <;> rfl) | (simp [*, errW_none, errW_some] <;> rfl), by (with_reducible repeat (first | apply Kd.S_alloc | apply Kd.S_drewN | apply Kd.S_drew)); exact HO272.out, by repeat (first | (with_reducible first | exact HI0.out | apply IsS78.alloc | apply IsS78.drewN | apply IsS78.drew | apply IsS78.set_1 | apply IsS78.set_2) | exact HI0.out), by repeat (first | (with_reducible first | exact HB.out | apply bal | apply pdn | apply bd1 | refine bst ?_ (IsS78.ge HI0.out)) | exact HB.out), by repeat (first | (with_reducible first | exact HK.out | apply KeepBut.set_ | apply keep_drewN | apply keep_drew | apply keep_alloc) | exact HK.out)⟩
 ·rw [if_neg c4] at H
  have c4b0 : ((t270.length : Int) == 0) = false := beq_eq_false_iff_ne.mpr c4
  have c4b1 : ((t270.length : Int) != 0) = true := bne_iff_ne.mpr c4
  have c4b2 : ¬ (t270 = []) := fun h_ => c4 (by rw [h_]; rfl)
  replace H := Option.bind_eq_some_iff.mp H
  obtain ⟨⟨t275, t276, t277⟩, A80, H⟩ := H
  replace H : ((spec_l00Src_pick.f s0_0 t276 t277 14).bind fun bt278 => (if bt278.1 = 0 then (if 0 ≤ t275 then (if t275 < (t270.length : Int) then ((spec_l00Src_pick.f s0_0 bt278.2.1 bt278.2.2 3).bind fun bt282 => (some ((t270.set (t275 : Int).toNat (⟨wrap64 (((rd_T43 t270 t275).f0) + (wrap64 (bt282.1 - 1))), (rd_T43 t270 t275).f1, (rd_T43 t270 t275).f2, (rd_T43 t270 t275).f3⟩ : S43)), bt282.2.1, bt282.2.2))) else (none)) else (none)) else (if bt278.1 = 1 then ((spec_l00Src_among.f s0_0 bt278.2.1 bt278.2.2 (([0, 60, 61] : List Int))).bind fun bt289 => (if 0 ≤ t275 then (if t275 < (t270.length : Int) then (some ((t270.set (t275 : Int).toNat (⟨(rd_T43 t270 t275).f0, bt289.1, (rd_T43 t270 t275).f2, (rd_T43 t270 t275).f3⟩ : S43)), bt289.2.1, bt289.2.2)) else (none)) else (none))) else (if bt278.1 = 2 then (if 0 ≤ t275 then (if t275 < (t270.length : Int) then (if ((rd_T43 t270 t275).f2).length < 17592186044416 then (some ((t270.set (t275 : Int).toNat (⟨(rd_T43 t270 t275).f0, (rd_T43 t270 t275).f1, (((rd_T43 t270 t275).f2) ++ [5]), (rd_T43 t270 t275).f3⟩ : S43)), bt278.2.1, bt278.2.2)) else (none)) else (none)) else (none)) else (if bt278.1 = 3 then (if 0 ≤ t275 then (if t275 < (t270.length : Int) then ((spec_l00Src_among.f s0_0 bt278.2.1 bt278.2.2 (([16, (-2), 1] : List Int))).bind fun bt302 => (if 0 < (((rd_T43 t270 t275).f2).length : Int) then (some ((t270.set (t275 : Int).toNat (⟨(rd_T43 t270 t275).f0, (rd_T43 t270 t275).f1, (((rd_T43 t270 t275).f2).set (0 : Int).toNat bt302.1), (rd_T43 t270 t275).f3⟩ : S43)), bt302.2.1, bt302.2.2)) else (none))) else (none)) else (none)) else (some (t270, bt278.2.1, bt278.2.2))))))) = some (r1, r2, r3) := H
  have A8 := am A80
  clear A80
  replace H := Option.bind_eq_some_iff.mp H
  obtain ⟨⟨t278, t279, t280⟩, A90, H⟩ := H
  replace H : (if t278 = 0 then (if 0 ≤ t275 then (if t275 < (t270.length : Int) then ((spec_l00Src_pick.f s0_0 t279 t280 3).bind fun bt282 => (some ((t270.set (t275 : Int).toNat (⟨wrap64 (((rd_T43 t270 t275).f0) + (wrap64 (bt282.1 - 1))), (rd_T43 t270 t275).f1, (rd_T43 t270 t275).f2, (rd_T43 t270 t275).f3⟩ : S43)), bt282.2.1, bt282.2.2))) else (none)) else (none)) else (if t278 = 1 then ((spec_l00Src_among.f s0_0 t279 t280 (([0, 60, 61] : List Int))).bind fun bt289 => (if 0 ≤ t275 then (if t275 < (t270.length : Int) then (some ((t270.set (t275 : Int).toNat (⟨(rd_T43 t270 t275).f0, bt289.1, (rd_T43 t270 t275).f2, (rd_T43 t270 t275).f3⟩ : S43)), bt289.2.1, bt289.2.2)) else (none)) else (none))) else (if t278 = 2 then (if 0 ≤ t275 then (if t275 < (t270.length : Int) then (if ((rd_T43 t270 t275).f2).length < 17592186044416 then (some ((t270.set (t275 : Int).toNat (⟨(rd_T43 t270 t275).f0, (rd_T43 t270 t275).f1, (((rd_T43 t270 t275).f2) ++ [5]), (rd_T43 t270 t275).f3⟩ : S43)), t279, t280)) else (none)) else (none)) else (none)) else (if t278 = 3 then (if 0 ≤ t275 then (if t275 < (t270.length : Int) then ((spec_l00Src_among.f s0_0 t279 t280 (([16, (-2), 1] : List Int))).bind fun bt302 => (if 0 < (((rd_T43 t270 t275).f2).length : Int) then (some ((t270.set (t275 : Int).toNat (⟨(rd_T43 t270 t275).f0, (rd_T43 t270 t275).f1, (((rd_T43 t270 t275).f2).set (0 : Int).toNat bt302.1), (rd_T43 t270 t275).f3⟩ : S43)), bt302.2.1, bt302.2.2)) else (none))) else (none)) else (none)) else (some (t270, t279, t280)))))) = some (r1, r2, r3) := H
  have A9 := am A90
  clear A90
  by_cases c10 : t278 = 0
  ·rw [if_pos c10] at H
   have c10b0 : (t278 == 0) = true := beq_iff_eq.mpr c10
   have c10b1 : (t278 != 0) = false := bne_eq_false_iff_eq.mpr c10
   clear c10
   by_cases c11 : 0 ≤ t275
   ·rw [if_pos c11] at H
    have c11b0 : decide (0 ≤ t275) = true := decide_eq_true c11
    clear c11
    by_cases c12 : t275 < (t270.length : Int)
    ·rw [if_pos c12] at H
     have c12b0 : decide (t275 < (t270.length : Int)) = true := decide_eq_true c12
     clear c12
     replace H := Option.bind_eq_some_iff.mp H
     obtain ⟨⟨t282, t283, t284⟩, A130, H⟩ := H
     replace H : (some ((t270.set (t275 : Int).toNat (⟨wrap64 (((rd_T43 t270 t275).f0) + (wrap64 (t282 - 1))), (rd_T43 t270 t275).f1, (rd_T43 t270 t275).f2, (rd_T43 t270 t275).f3⟩ : S43)), t283, t284)) = some (r1, r2, r3) := H
     have A13 := am A130
     clear A130
     obtain ⟨y285, hy285⟩ : ∃ y_ : List (S43), y_ = (t270.set (t275 : Int).toNat (⟨wrap64 (((rd_T43 t270 t275).f0) + (wrap64 (t282 - 1))), (rd_T43 t270 t275).f1, (rd_T43 t270 t275).f2, (rd_T43 t270 t275).f3⟩ : S43)) := ⟨_, rfl⟩
     replace H : (some (y285, t283, t284)) = some (r1, r2, r3) := by first | (rw [hy285]; with_reducible exact H) | (have H2_ := (Option.bind_some _ _).symm.trans H; rw [hy285]; with_reducible exact H2_) | (have H2_ := (Option.bind_some _ _).symm.trans H; with_reducible exact H2_) | with_reducible exact H | (rw [hy285]; exact H) | exact H
     have Ny285 := am hy285
     clear hy285
     simp only [Option.some.injEq, Prod.mk.injEq] at H
     obtain ⟨rfl, rfl, rfl⟩ := H
     go_enter Try.func69, Try.ntmps69
     try go_wp2_with (first | ((with_reducible refine gate_callee (f := 71) rfl ?_); refine goesL_ (some 7) rfl rfl Try.func71 (by kernel_rfl) rfl #[.pointer (some ⟨g, 0, none⟩), .int .i64 3] rfl (by (try simp only [mta, mco, mni]); first | done | rfl | (simp only [lnd, lnt]; rfl)) ?_; (with_reducible refine (spec_l00Src_pick.calls g s0_0 s0_1 s0_2 3 t267 t268 t269 w0 _ ?side1 ?side2 A2.out).mono ?_); (case side1 => repeat (first | (with_reducible first | exact HI0.out | apply IsS78.alloc | apply IsS78.drewN | apply IsS78.drew | apply IsS78.set_1 | apply IsS78.set_2) | exact HI0.out)); (case side2 => repeat (first | (with_reducible first | exact HB.out | apply bal | apply pdn | apply bd1 | refine bst ?_ (IsS78.ge HI0.out)) | exact HB.out)); rintro e w15 ⟨rfl, hi, hb, hk⟩; refine ⟨_, rfl, ?_⟩; have n0_ := am (KeepBut.trans (by repeat (first | (with_reducible first | exact HK.out | apply KeepBut.set_ | apply keep_drewN | apply keep_drew | apply keep_alloc) | exact HK.out)) hk (.inl rfl)); have n1_ := am (hb); have n2_ := am (hi); clear HK; clear HB; clear HI0; have HK := n0_; have HB := n1_; have HI0 := n2_; clear n0_ n1_ n2_; (try clear hb); (try clear hb2); (try clear hk); (try clear hi)) | ((with_reducible refine gate_callee (f := 91) rfl ?_); refine goesL_ (some 9) rfl rfl Try.func91 (by kernel_rfl) rfl #[.pointer (some ⟨g, 0, none⟩), .int .i64 (wrap64 (2 + t267))] rfl (by (try simp only [mta, mco, mni]); first | done | rfl | (simp only [lnd, lnt]; rfl)) ?_; (with_reducible refine (spec_l13Draw.calls k g s0_0 t268 t269 (wrap64 (2 + t267)) t270 t273 t274 w0 _ ?side1 ?side2 A3.out).mono ?_); (case side1 => repeat (first | (with_reducible first | exact HI0.out | apply IsS78.alloc | apply IsS78.drewN | apply IsS78.drew | apply IsS78.set_1 | apply IsS78.set_2) | exact HI0.out)); (case side2 => repeat (first | (with_reducible first | exact HB.out | apply bal | apply pdn | apply bd1 | refine bst ?_ (IsS78.ge HI0.out)) | exact HB.out)); rintro e w16 ⟨v271, rfl, ho0, hi, hb, hk⟩; refine ⟨_, rfl, ?_⟩; have n0_ := am (Kd.S_lower ho0 (keep_size (w := w) (g := g) (row := none) (by repeat (first | (with_reducible first | exact HK.out | apply KeepBut.set_ | apply keep_drewN | apply keep_drew | apply keep_alloc) | exact HK.out)))); have n1_ := am (KeepBut.trans (by repeat (first | (with_reducible first | exact HK.out | apply KeepBut.set_ | apply keep_drewN | apply keep_drew | apply keep_alloc) | exact HK.out)) hk (.inl rfl)); have n2_ := am (hb); have n3_ := am (hi); clear HK; clear HB; clear HI0; have HO272 := n0_; have HK := n1_; have HB := n2_; have HI0 := n3_; clear n0_ n1_ n2_ n3_; (try clear hb); (try clear hb2); (try clear hk); (try clear hi); (try clear ho0); obtain ⟨Ao17, co17, eo17⟩ := Kd.S_slice HO272.out; subst eo17) | ((with_reducible refine gate_callee (f := 71) rfl ?_); refine goesL_ (some 17) rfl rfl Try.func71 (by kernel_rfl) rfl #[.pointer (some ⟨g, 0, none⟩), .int .i64 (t270.length : Int)] rfl (by (try simp only [mta, mco, mni]); first | done | rfl | (simp only [lnd, lnt]; rfl)) ?_; (with_reducible refine (spec_l00Src_pick.calls g s0_0 t273 t274 (t270.length : Int) t275 t276 t277 w0 _ ?side1 ?side2 A8.out).mono ?_); (case side1 => repeat (first | (with_reducible first | exact HI0.out | apply IsS78.alloc | apply IsS78.drewN | apply IsS78.drew | apply IsS78.set_1 | apply IsS78.set_2) | exact HI0.out)); (case side2 => repeat (first | (with_reducible first | exact HB.out | apply bal | apply pdn | apply bd1 | refine bst ?_ (IsS78.ge HI0.out)) | exact HB.out)); rintro e w18 ⟨rfl, hi, hb, hk⟩; refine ⟨_, rfl, ?_⟩; have n0_ := am (Kd.S_mono (Kd.S_keep (IsS78.apartS (show IsS78 w0 _ g s0_0 t273 t274 from by repeat (first | (with_reducible first | exact HI0.out | apply IsS78.alloc | apply IsS78.drewN | apply IsS78.drew | apply IsS78.set_1 | apply IsS78.set_2) | exact HI0.out)) (by (with_reducible repeat (first | apply Kd.S_alloc | apply Kd.S_drewN | apply Kd.S_drew)); exact HO272.out) (by decide)) hk (fun _ h => h.2)) (fun _ h => h.1)); have n1_ := am (KeepBut.trans (by repeat (first | (with_reducible first | exact HK.out | apply KeepBut.set_ | apply keep_drewN | apply keep_drew | apply keep_alloc) | exact HK.out)) hk (.inl rfl)); have n2_ := am (hb); have n3_ := am (hi); clear HO272; clear HK; clear HB; clear HI0; have HO272 := n0_; have HK := n1_; have HB := n2_; have HI0 := n3_; clear n0_ n1_ n2_ n3_; (try clear hb); (try clear hb2); (try clear hk); (try clear hi)) | ((with_reducible refine gate_callee (f := 71) rfl ?_); refine goesL_ (some 19) rfl rfl Try.func71 (by kernel_rfl) rfl #[.pointer (some ⟨g, 0, none⟩), .int .i64 14] rfl (by (try simp only [mta, mco, mni]); first | done | rfl | (simp only [lnd, lnt]; rfl)) ?_; (with_reducible refine (spec_l00Src_pick.calls g s0_0 t276 t277 14 t278 t279 t280 w0 _ ?side1 ?side2 A9.out).mono ?_); (case side1 => repeat (first | (with_reducible first | exact HI0.out | apply IsS78.alloc | apply IsS78.drewN | apply IsS78.drew | apply IsS78.set_1 | apply IsS78.set_2) | exact HI0.out)); (case side2 => repeat (first | (with_reducible first | exact HB.out | apply bal | apply pdn | apply bd1 | refine bst ?_ (IsS78.ge HI0.out)) | exact HB.out)); rintro e w19 ⟨rfl, hi, hb, hk⟩; refine ⟨_, rfl, ?_⟩; have n0_ := am (Kd.S_mono (Kd.S_keep (IsS78.apartS (show IsS78 w0 _ g s0_0 t276 t277 from by repeat (first | (with_reducible first | exact HI0.out | apply IsS78.alloc | apply IsS78.drewN | apply IsS78.drew | apply IsS78.set_1 | apply IsS78.set_2) | exact HI0.out)) (by (with_reducible repeat (first | apply Kd.S_alloc | apply Kd.S_drewN | apply Kd.S_drew)); exact HO272.out) (by decide)) hk (fun _ h => h.2)) (fun _ h => h.1)); have n1_ := am (KeepBut.trans (by repeat (first | (with_reducible first | exact HK.out | apply KeepBut.set_ | apply keep_drewN | apply keep_drew | apply keep_alloc) | exact HK.out)) hk (.inl rfl)); have n2_ := am (hb); have n3_ := am (hi); clear HO272; clear HK; clear HB; clear HI0; have HO272 := n0_; have HK := n1_; have HB := n2_; have HI0 := n3_; clear n0_ n1_ n2_ n3_; (try clear hb); (try clear hb2); (try clear hk); (try clear hi)))
     have n0_ := am (Kd.S_drew HO272.out)
     have n1_ := am (IsS78.drew HI0.out)
     have n2_ := am (keep_drew HK.out)
     have n3_ := am (bd1 HB.out)
     clear HO272
     clear HI0
     clear HK
     clear HB
     have HO272 := n0_
     have HI0 := n1_
     have HK := n2_
     have HB := n3_
     clear n0_ n1_ n2_ n3_
     have p281 : 0 ≤ (t275 : Int) := of_decide_eq_true (by first | (with_reducible assumption) | assumption)
     have q281 : t275 < (t270.length : Int) := of_decide_eq_true (by first | (with_reducible assumption) | assumption)
     obtain ⟨ad281, A281_2, c281_2, e281, hx281_0, hx281_1, hx281_2, hx281_3, hl281_2, hi281_2⟩ := at_T43 (Kd.S_reads' HO272.out).2.2 t275 p281 q281
     cases e281
     obtain ⟨ce281, hce281, hMe281, hcc281⟩ := Kd.S_get HO272.out z43 t275 p281 (by first | exact q281 | exact of_decide_eq_true (by first | (with_reducible assumption) | assumption) | (have e_ := (Kd.S_reads' HO272.out).1; omega))
     obtain ⟨ve281_2, rfl, ge281_2⟩ := k43_openM hMe281
     have hv281_2 := hcc281 2 _ rfl
     rw [add_field _ _ 2 (by omega)] at hv281_2
     replace hv281_2 := Option.some.inj (hv281_2.symm.trans hx281_2)
     rw [hv281_2] at ge281_2
     have HL281_2 := am (show Kd.R (Kd.int .i64) 2 _ _ _ _ ((rd_T43 t270 t275).f2) from ge281_2)
     clear hv281_2 ge281_2
     have HX281_2 := am hx281_2
     clear hcc281 hce281
     have HR281_2 := am hi281_2
     have HC281_2 := am hl281_2
     clear hi281_2 hl281_2
     replace p281 := eq_true p281
     replace q281 := eq_true q281
     refine start_ (n := 12) (S := fun w' => w'.cell? (ad281.add ((t275).toNat * 4)) = some (.int .i64 ((rd_T43 t270 t275).f0)) ∧ w'.cell? ⟨(ad281.add ((t275).toNat * 4)).block, (ad281.add ((t275).toNat * 4)).off + 1, none⟩ = some (.int .i64 ((rd_T43 t270 t275).f1)) ∧ w'.cell? ⟨(ad281.add ((t275).toNat * 4)).block, (ad281.add ((t275).toNat * 4)).off + 2, none⟩ = some (.slice A281_2 ((rd_T43 t270 t275).f2).length c281_2) ∧ w'.cell? ⟨(ad281.add ((t275).toNat * 4)).block, (ad281.add ((t275).toNat * 4)).off + 3, none⟩ = some (.bool ((rd_T43 t270 t275).f3))) (ds := [11]) #[false, false, false, false, false, false, false, false, false, false, false, false] (by kernel_rfl) rfl rfl ⟨hx281_0, hx281_1, hx281_2, hx281_3⟩ (fun hHeld => ?_); refine with_tabW spec_l13Bent.tab7 spec_l13Bent.bits7 (fun HT_ HW_ => ?_)
     generalize w19.drew = w20 at HO272 HI0 HK HB HL281_2 HR281_2 HX281_2 hx281_0 hx281_1 hx281_2 hx281_3 hHeld ⊢
     refine pure_ (i := 0) (N := some 22) (v := ?_) (a' := ?_) #[true, false, false, false, false, false, false, false, false, false, false, false] rfl rfl (any_of HT_.out (by kernel_rfl)) (fun _ _ _ h => h) (Or.inl ⟨by rfl, ?_⟩) ?_ ?_
     rotate_left
     ·intro w'
      go_simp
      with_reducible rfl
     rotate_left
     ·simp only [Act.put, sit, scz, scs, i64_w, i32_w]
      rfl
     refine pure_ (i := 1) (N := some 23) (v := ?_) (a' := ?_) #[true, true, false, false, false, false, false, false, false, false, false, false] rfl rfl (any_of HT_.out (by kernel_rfl)) (fun _ _ _ h => h) (Or.inl ⟨by rfl, ?_⟩) ?_ ?_
     rotate_left
     ·intro w'
      go_simp
      with_reducible rfl
     rotate_left
     ·simp only [Act.put, sit, scz, scs, i64_w, i32_w]
      rfl
     refine pure_ (i := 2) (N := some 24) (v := ?_) (a' := ?_) #[true, true, true, false, false, false, false, false, false, false, false, false] rfl rfl (any_of HT_.out (by kernel_rfl)) (fun _ _ _ h => h) (Or.inl ⟨by rfl, ?_⟩) ?_ ?_
     rotate_left
     ·intro w'
      go_simp
      with_reducible rfl
     rotate_left
     ·simp only [Act.put, sit, scz, scs, i64_w, i32_w]
      rfl
     refine pure_ (i := 3) (N := some 25) (v := ?_) (a' := ?_) #[true, true, true, true, false, false, false, false, false, false, false, false] rfl rfl (any_of HT_.out (by kernel_rfl)) (fun _ _ _ h => h) (Or.inl ⟨by rfl, ?_⟩) ?_ ?_
     rotate_left
     ·intro w'
      go_simp
      with_reducible rfl
     rotate_left
     ·simp only [Act.put, sit, scz, scs, i64_w, i32_w]
      rfl
     refine pure_ (i := 5) (N := some 27) (v := ?_) (a' := ?_) #[true, true, true, true, false, true, false, false, false, false, false, false] rfl rfl (any_of HT_.out (by kernel_rfl)) (fun _ _ _ h => h) (Or.inl ⟨by rfl, ?_⟩) ?_ ?_
     rotate_left
     ·intro w'
      go_simp
      with_reducible rfl
     rotate_left
     ·simp only [Act.put, sit, scz, scs, i64_w, i32_w]
      rfl
     refine take_ (i := 4) (N := some 26) (v := ?_) (a' := ?_) #[true, true, true, true, true, true, false, false, false, false, false, false] rfl rfl (take_ofW HT_.out HW_.out (by kernel_rfl)) (fun _ _ _ h => h) (Or.inl ⟨by rfl, ?_⟩) hHeld ?_ ?_
     rotate_left
     ·rintro w' ⟨s0, s1, s2, s3⟩
      go_simp
      with_reducible rfl
     rotate_left
     ·simp only [Act.put, sit, scz, scs, i64_w, i32_w]
      rfl
     refine one_ (i := 6) (N := some 28) #[true, true, true, true, true, true, true, false, false, false, false, false] rfl rfl (one_of HT_.out (by kernel_rfl)) (by decide) (fun K hK => ?_)
     refine goes_ Try.func71 (by kernel_rfl) rfl #[.pointer (some ⟨g, 0, none⟩), .int .i64 3] (by rfl) rfl rfl (by (try simp only [mta, mco, mni]); first | done | rfl | (simp only [lnd, lnt]; rfl)) ?_
     with_reducible refine (spec_l00Src_pick.calls g s0_0 t279 t280 3 t282 t283 t284 w0 _ ?side1 ?side2 A13.out).mono ?_
     (case side1 => repeat (first | (with_reducible first | exact HI0.out | apply IsS78.alloc | apply IsS78.drewN | apply IsS78.drew | apply IsS78.set_1 | apply IsS78.set_2) | exact HI0.out))
     (case side2 => repeat (first | (with_reducible first | exact HB.out | apply bal | apply pdn | apply bd1 | refine bst ?_ (IsS78.ge HI0.out)) | exact HB.out))
     rintro e w21 ⟨rfl, hi, hb, hk⟩
     have HS0_ := keep_cell hk (hHeld.1) (by first | (rw [add_block]; exact Kd.own_blk (IsS78.own_neS HI0.out HO272.out (by decide))) | (show (Addr.add _ _).block ≠ _; rw [add_block]; exact Kd.own_blk (IsS78.own_neS HI0.out HO272.out (by decide))) | exact Kd.own_blk (IsS78.own_neS HI0.out HO272.out (by decide)))
     have HS1_ := keep_cell hk (hHeld.2.1) (by first | (rw [add_block]; exact Kd.own_blk (IsS78.own_neS HI0.out HO272.out (by decide))) | (show (Addr.add _ _).block ≠ _; rw [add_block]; exact Kd.own_blk (IsS78.own_neS HI0.out HO272.out (by decide))) | exact Kd.own_blk (IsS78.own_neS HI0.out HO272.out (by decide)))
     have HS2_ := keep_cell hk (hHeld.2.2.1) (by first | (rw [add_block]; exact Kd.own_blk (IsS78.own_neS HI0.out HO272.out (by decide))) | (show (Addr.add _ _).block ≠ _; rw [add_block]; exact Kd.own_blk (IsS78.own_neS HI0.out HO272.out (by decide))) | exact Kd.own_blk (IsS78.own_neS HI0.out HO272.out (by decide)))
     have HS3_ := keep_cell hk (hHeld.2.2.2) (by first | (rw [add_block]; exact Kd.own_blk (IsS78.own_neS HI0.out HO272.out (by decide))) | (show (Addr.add _ _).block ≠ _; rw [add_block]; exact Kd.own_blk (IsS78.own_neS HI0.out HO272.out (by decide))) | exact Kd.own_blk (IsS78.own_neS HI0.out HO272.out (by decide)))
     refine ⟨_, rfl, ?_⟩
     have n0_ := am (Kd.S_mono (Kd.S_keep (IsS78.apartS (show IsS78 w0 _ g s0_0 t279 t280 from by repeat (first | (with_reducible first | exact HI0.out | apply IsS78.alloc | apply IsS78.drewN | apply IsS78.drew | apply IsS78.set_1 | apply IsS78.set_2) | exact HI0.out)) (by (with_reducible repeat (first | apply Kd.S_alloc | apply Kd.S_drewN | apply Kd.S_drew)); exact HO272.out) (by decide)) hk (fun _ h => h.2)) (fun _ h => h.1))
     have n1_ := am (Kd.R_mono (Kd.R_keep (IsS78.apart (show IsS78 w0 _ g s0_0 t279 t280 from by repeat (first | (with_reducible first | exact HI0.out | apply IsS78.alloc | apply IsS78.drewN | apply IsS78.drew | apply IsS78.set_1 | apply IsS78.set_2) | exact HI0.out)) (by (with_reducible repeat (first | apply kra | apply krn | apply krd)); exact HL281_2.out) (by decide)) hk (fun _ h => h.2)) (fun _ h => h.1))
     have n2_ := am (keep_cell hk HX281_2.out (by first | (rw [add_block]; exact Kd.own_blk (IsS78.own_neS HI0.out HO272.out (by decide))) | (show (Addr.add _ _).block ≠ _; rw [add_block]; exact Kd.own_blk (IsS78.own_neS HI0.out HO272.out (by decide))) | exact Kd.own_blk (IsS78.own_neS HI0.out HO272.out (by decide)) | (dsimp only; exact Kd.own_blk (IsS78.own_neS HI0.out HO272.out (by decide)))))
     have n3_ := am (KeepBut.trans (by repeat (first | (with_reducible first | exact HK.out | apply KeepBut.set_ | apply keep_drewN | apply keep_drew | apply keep_alloc) | exact HK.out)) hk (.inl rfl))
     have n4_ := am (hb)
     have n5_ := am (hi)
     clear HO272
     clear HL281_2
     clear HX281_2
     clear HK
     clear HB
     clear HI0
     have HO272 := n0_
     have HL281_2 := n1_
     have HX281_2 := n2_
     have HK := n3_
     have HB := n4_
     have HI0 := n5_
     clear n0_ n1_ n2_ n3_ n4_ n5_
     have p14 : 0 ≤ (t275 : Int) := of_decide_eq_true (by first | (with_reducible assumption) | assumption)
     have q14 : (t275 : Int) < ((t270.length : Int) : Int) := of_decide_eq_true (by first | (with_reducible assumption) | assumption)
     obtain ⟨go14, co14, eo14, gb14, gl14, cl14, HG14⟩ := Kd.S_form HO272.out (by omega)
     (first | cases eo14 | (injection eo14 with ea_ en_ ec_; (first | subst ea_ | (injection ea_ with ea_; subst ea_)); subst ec_; clear en_))
     have GB14 := am gb14
     have GG14 := am HG14
     clear gb14 gl14 HG14
     (first | simp only [add_plain] at hx281_0 | skip)
     (first | simp only [add_plain] at hx281_1 | skip)
     (first | simp only [add_plain] at hx281_2 | skip)
     (first | simp only [add_plain] at hx281_3 | skip)
     obtain ⟨_, ce14, hcl14, hM14, hcc14, hfr14, _, _⟩ := Kd.S_elem HO272.out z43 (t275 : Int) p14 q14
     obtain ⟨ve14_2, rfl, ge14_2⟩ := k43_openM hM14
     have hx14_0 : World.cell? _ ⟨go14, (t275 : Int).toNat * 4, none⟩ = some (.int .i64 ((rd_T43 t270 t275).f0)) := hcc14 0 _ rfl
     have hx14_1 : World.cell? _ ⟨go14, (t275 : Int).toNat * 4 + 1, none⟩ = some (.int .i64 ((rd_T43 t270 t275).f1)) := hcc14 1 _ rfl
     have hx14_2 : World.cell? _ ⟨go14, (t275 : Int).toNat * 4 + 2, none⟩ = some (ve14_2) := hcc14 2 _ rfl
     have hx14_3 : World.cell? _ ⟨go14, (t275 : Int).toNat * 4 + 3, none⟩ = some (.bool ((rd_T43 t270 t275).f3)) := hcc14 3 _ rfl
     have hf14_0 : World.frozen? _ ⟨go14, (t275 : Int).toNat * 4, none⟩ = false := hfr14 0
     have hf14_1 : World.frozen? _ ⟨go14, (t275 : Int).toNat * 4 + 1, none⟩ = false := hfr14 1
     have hf14_2 : World.frozen? _ ⟨go14, (t275 : Int).toNat * 4 + 2, none⟩ = false := hfr14 2
     have hf14_3 : World.frozen? _ ⟨go14, (t275 : Int).toNat * 4 + 3, none⟩ = false := hfr14 3
     clear hcl14 hcc14 hfr14 hM14
     replace p14 := eq_true p14
     replace q14 := eq_true q14
     have HN0_go14 := am (show g ≠ go14 from by have h_ := IsS78.own_neS HI0.out HO272.out (by decide); intro e_; exact h_ (by rw [e_]; rfl))
     have HX22 := am (show Kd.S k43 43 _ w.heap.size (fun k_ => ((fun _ => True)) k_ ∧ ¬ (fun _ => False) k_) (.slice (some ⟨go14, 0, none⟩) t270.length co17) t270 from (Kd.S_mono HO272.out (fun k_ hk => ⟨trivial, fun e_ => e_⟩)))
     obtain ⟨oki22, ce22, hcl22, hM22, hcc22, hfr22, hoki22, hH22⟩ := Kd.S_elem HX22.out z43 (t275 : Int) (of_decide_eq_true (by first | (with_reducible assumption) | assumption)) (by have h_ : (t275 : Int) < ((t270.length : Int) : Int) := of_decide_eq_true (by first | (with_reducible assumption) | assumption); first | exact h_ | (have e_ := (Kd.S_reads' HO272.out).1; omega) | simpa using h_)
     obtain ⟨ve22_2, rfl, ge22_2⟩ := k43_openM hM22
     have HP22 := (Kd.S_seg hH22 (of_decide_eq_true (by first | (with_reducible assumption) | assumption)) (by have h_ : (t275 : Int) < ((t270.length : Int) : Int) := of_decide_eq_true (by first | (with_reducible assumption) | assumption); first | exact h_ | (have e_ := (Kd.S_reads' HO272.out).1; omega) | simpa using h_) (seg := [.int .i64 (wrap64 (((rd_T43 t270 t275).f0) + (wrap64 (t282 - 1))))]) (j := 0) (show 1 ≤ 4 from by decide) (x' := (⟨wrap64 (((rd_T43 t270 t275).f0) + (wrap64 (t282 - 1))), (rd_T43 t270 t275).f1, (rd_T43 t270 t275).f2, (rd_T43 t270 t275).f3⟩ : S43)) (k43_mkM _ _ _ (⟨wrap64 (((rd_T43 t270 t275).f0) + (wrap64 (t282 - 1))), (rd_T43 t270 t275).f1, (rd_T43 t270 t275).f2, (rd_T43 t270 t275).f3⟩ : S43) ge22_2) (fun _ hk => Or.inl hk) (fun _ hk => hk.elim)).1
     rw [← Ny285.out] at HP22
     have HQ22 := am HP22
     clear hcl22 hcc22 hfr22 hM22 HP22
     refine hK.out _ _ ⟨HS0_, HS1_, HS2_, HS3_⟩ (fun hHeld => ?_)
     clear hK K
     refine norm_ (a' := ?_) ?_ ?_
     rotate_left
     ·show Act.put _ (some 28) _ = _
      simp only [Act.put, sit, scz, scs, i64_w, i32_w]
      rfl
     refine pure_ (i := 7) (N := some 29) (v := ?_) (a' := ?_) #[true, true, true, true, true, true, true, true, false, false, false, false] rfl rfl (any_of HT_.out (by kernel_rfl)) (fun _ _ _ h => h) (Or.inl ⟨by rfl, ?_⟩) ?_ ?_
     rotate_left
     ·intro w'
      go_simp
      with_reducible rfl
     rotate_left
     ·simp only [Act.put, sit, scz, scs, i64_w, i32_w]
      rfl
     refine pure_ (i := 8) (N := some 30) (v := ?_) (a' := ?_) #[true, true, true, true, true, true, true, true, true, false, false, false] rfl rfl (any_of HT_.out (by kernel_rfl)) (fun _ _ _ h => h) (Or.inl ⟨by rfl, ?_⟩) ?_ ?_
     rotate_left
     ·intro w'
      go_simp
      with_reducible rfl
     rotate_left
     ·simp only [Act.put, sit, scz, scs, i64_w, i32_w]
      rfl
     refine pure_ (i := 9) (N := some 31) (v := ?_) (a' := ?_) #[true, true, true, true, true, true, true, true, true, true, false, false] rfl rfl (any_of HT_.out (by kernel_rfl)) (fun _ _ _ h => h) (Or.inl ⟨by rfl, ?_⟩) ?_ ?_
     rotate_left
     ·intro w'
      go_simp
      with_reducible rfl
     rotate_left
     ·simp only [Act.put, sit, scz, scs, i64_w, i32_w]
      rfl
     refine pure_ (i := 10) (N := some 32) (v := ?_) (a' := ?_) #[true, true, true, true, true, true, true, true, true, true, true, false] rfl rfl (any_of HT_.out (by kernel_rfl)) (fun _ _ _ h => h) (Or.inl ⟨by rfl, ?_⟩) ?_ ?_
     rotate_left
     ·intro w'
      go_simp
      with_reducible rfl
     rotate_left
     ·simp only [Act.put, sit, scz, scs, i64_w, i32_w]
      rfl
     refine last_ (i := 11) (N := none) #[true, true, true, true, true, true, true, true, true, true, true, true] rfl rfl (one_of HT_.out (by kernel_rfl)) (by decide) (fun K hK => ?_)
     refine skip_ (w1 := ?_) (by rfl) rfl ?_ ?_
     rotate_left
     ·go_simp
      rfl
     refine hK.out _ _ ?_
     clear hK K
     refine done_ (done_of HT_.out (by kernel_rfl)) ?_
     try go_wp2
     go_ret
     exact ⟨_, by first | rfl | (simp [errW_none, errW_some] <;> rfl) | (simp [*, errW_none, errW_some] <;> rfl), by (with_reducible repeat (first | apply Kd.S_alloc | apply Kd.S_drewN | apply Kd.S_drew)); exact HQ22.out, by repeat (first | (with_reducible first | exact HI0.out | apply IsS78.alloc | apply IsS78.drewN | apply IsS78.drew | apply IsS78.set_1 | apply IsS78.set_2 | refine IsS78.far ?_ HN0_go14.out _) | exact HI0.out), by repeat (first | (with_reducible first | exact HB.out | apply bal | apply pdn | apply bd1 | refine bst ?_ (Nat.le_trans HL.out GB14.out) | refine bst ?_ (IsS78.ge HI0.out)) | exact HB.out), by repeat (first | (with_reducible first | exact HK.out | apply KeepBut.set_ | apply keep_drewN | apply keep_drew | apply keep_alloc | refine keep_far ?_ GB14.out _) | exact HK.out)⟩
    ·rw [if_neg c12] at H
     exact absurd H (by simp)
   ·rw [if_neg c11] at H
    exact absurd H (by simp)
  ·rw [if_neg c10] at H
   have c10b0 : (t278 == 0) = false := beq_eq_false_iff_ne.mpr c10
   have c10b1 : (t278 != 0) = true := bne_iff_ne.mpr c10
   by_cases c23 : t278 = 1
   ·rw [if_pos c23] at H
    have c23b0 : (t278 == 1) = true := beq_iff_eq.mpr c23
    have c23b1 : (t278 != 1) = false := bne_eq_false_iff_eq.mpr c23
    clear c23
    obtain ⟨y286, hy286⟩ : ∃ y_ : List Int, y_ = (([0, 60, 61] : List Int)) := ⟨_, rfl⟩
    replace H : ((spec_l00Src_among.f s0_0 t279 t280 y286).bind fun bt289 => (if 0 ≤ t275 then (if t275 < (t270.length : Int) then (some ((t270.set (t275 : Int).toNat (⟨(rd_T43 t270 t275).f0, bt289.1, (rd_T43 t270 t275).f2, (rd_T43 t270 t275).f3⟩ : S43)), bt289.2.1, bt289.2.2)) else (none)) else (none))) = some (r1, r2, r3) := by first | (rw [hy286]; with_reducible exact H) | (have H2_ := (Option.bind_some _ _).symm.trans H; rw [hy286]; with_reducible exact H2_) | (have H2_ := (Option.bind_some _ _).symm.trans H; with_reducible exact H2_) | with_reducible exact H | (rw [hy286]; exact H) | exact H
    have Ny286 := am hy286
    clear hy286
    replace H := Option.bind_eq_some_iff.mp H
    obtain ⟨⟨t289, t290, t291⟩, A240, H⟩ := H
    replace H : (if 0 ≤ t275 then (if t275 < (t270.length : Int) then (some ((t270.set (t275 : Int).toNat (⟨(rd_T43 t270 t275).f0, t289, (rd_T43 t270 t275).f2, (rd_T43 t270 t275).f3⟩ : S43)), t290, t291)) else (none)) else (none)) = some (r1, r2, r3) := H
    have A24 := am A240
    clear A240
    by_cases c25 : 0 ≤ t275
    ·rw [if_pos c25] at H
     have c25b0 : decide (0 ≤ t275) = true := decide_eq_true c25
     clear c25
     by_cases c26 : t275 < (t270.length : Int)
     ·rw [if_pos c26] at H
      have c26b0 : decide (t275 < (t270.length : Int)) = true := decide_eq_true c26
      clear c26
      obtain ⟨y292, hy292⟩ : ∃ y_ : List (S43), y_ = (t270.set (t275 : Int).toNat (⟨(rd_T43 t270 t275).f0, t289, (rd_T43 t270 t275).f2, (rd_T43 t270 t275).f3⟩ : S43)) := ⟨_, rfl⟩
      replace H : (some (y292, t290, t291)) = some (r1, r2, r3) := by first | (rw [hy292]; with_reducible exact H) | (have H2_ := (Option.bind_some _ _).symm.trans H; rw [hy292]; with_reducible exact H2_) | (have H2_ := (Option.bind_some _ _).symm.trans H; with_reducible exact H2_) | with_reducible exact H | (rw [hy292]; exact H) | exact H
      have Ny292 := am hy292
      clear hy292
      simp only [Option.some.injEq, Prod.mk.injEq] at H
      obtain ⟨rfl, rfl, rfl⟩ := H
      go_enter Try.func69, Try.ntmps69
      go_wp2_with (first | ((with_reducible refine gate_callee (f := 71) rfl ?_); refine goesL_ (some 7) rfl rfl Try.func71 (by kernel_rfl) rfl #[.pointer (some ⟨g, 0, none⟩), .int .i64 3] rfl (by (try simp only [mta, mco, mni]); first | done | rfl | (simp only [lnd, lnt]; rfl)) ?_; (with_reducible refine (spec_l00Src_pick.calls g s0_0 s0_1 s0_2 3 t267 t268 t269 w0 _ ?side1 ?side2 A2.out).mono ?_); (case side1 => repeat (first | (with_reducible first | exact HI0.out | apply IsS78.alloc | apply IsS78.drewN | apply IsS78.drew | apply IsS78.set_1 | apply IsS78.set_2) | exact HI0.out)); (case side2 => repeat (first | (with_reducible first | exact HB.out | apply bal | apply pdn | apply bd1 | refine bst ?_ (IsS78.ge HI0.out)) | exact HB.out)); rintro e w28 ⟨rfl, hi, hb, hk⟩; refine ⟨_, rfl, ?_⟩; have n0_ := am (KeepBut.trans (by repeat (first | (with_reducible first | exact HK.out | apply KeepBut.set_ | apply keep_drewN | apply keep_drew | apply keep_alloc) | exact HK.out)) hk (.inl rfl)); have n1_ := am (hb); have n2_ := am (hi); clear HK; clear HB; clear HI0; have HK := n0_; have HB := n1_; have HI0 := n2_; clear n0_ n1_ n2_; (try clear hb); (try clear hb2); (try clear hk); (try clear hi)) | ((with_reducible refine gate_callee (f := 91) rfl ?_); refine goesL_ (some 9) rfl rfl Try.func91 (by kernel_rfl) rfl #[.pointer (some ⟨g, 0, none⟩), .int .i64 (wrap64 (2 + t267))] rfl (by (try simp only [mta, mco, mni]); first | done | rfl | (simp only [lnd, lnt]; rfl)) ?_; (with_reducible refine (spec_l13Draw.calls k g s0_0 t268 t269 (wrap64 (2 + t267)) t270 t273 t274 w0 _ ?side1 ?side2 A3.out).mono ?_); (case side1 => repeat (first | (with_reducible first | exact HI0.out | apply IsS78.alloc | apply IsS78.drewN | apply IsS78.drew | apply IsS78.set_1 | apply IsS78.set_2) | exact HI0.out)); (case side2 => repeat (first | (with_reducible first | exact HB.out | apply bal | apply pdn | apply bd1 | refine bst ?_ (IsS78.ge HI0.out)) | exact HB.out)); rintro e w29 ⟨v271, rfl, ho0, hi, hb, hk⟩; refine ⟨_, rfl, ?_⟩; have n0_ := am (Kd.S_lower ho0 (keep_size (w := w) (g := g) (row := none) (by repeat (first | (with_reducible first | exact HK.out | apply KeepBut.set_ | apply keep_drewN | apply keep_drew | apply keep_alloc) | exact HK.out)))); have n1_ := am (KeepBut.trans (by repeat (first | (with_reducible first | exact HK.out | apply KeepBut.set_ | apply keep_drewN | apply keep_drew | apply keep_alloc) | exact HK.out)) hk (.inl rfl)); have n2_ := am (hb); have n3_ := am (hi); clear HK; clear HB; clear HI0; have HO272 := n0_; have HK := n1_; have HB := n2_; have HI0 := n3_; clear n0_ n1_ n2_ n3_; (try clear hb); (try clear hb2); (try clear hk); (try clear hi); (try clear ho0); obtain ⟨Ao30, co30, eo30⟩ := Kd.S_slice HO272.out; subst eo30) | ((with_reducible refine gate_callee (f := 71) rfl ?_); refine goesL_ (some 17) rfl rfl Try.func71 (by kernel_rfl) rfl #[.pointer (some ⟨g, 0, none⟩), .int .i64 (t270.length : Int)] rfl (by (try simp only [mta, mco, mni]); first | done | rfl | (simp only [lnd, lnt]; rfl)) ?_; (with_reducible refine (spec_l00Src_pick.calls g s0_0 t273 t274 (t270.length : Int) t275 t276 t277 w0 _ ?side1 ?side2 A8.out).mono ?_); (case side1 => repeat (first | (with_reducible first | exact HI0.out | apply IsS78.alloc | apply IsS78.drewN | apply IsS78.drew | apply IsS78.set_1 | apply IsS78.set_2) | exact HI0.out)); (case side2 => repeat (first | (with_reducible first | exact HB.out | apply bal | apply pdn | apply bd1 | refine bst ?_ (IsS78.ge HI0.out)) | exact HB.out)); rintro e w31 ⟨rfl, hi, hb, hk⟩; refine ⟨_, rfl, ?_⟩; have n0_ := am (Kd.S_mono (Kd.S_keep (IsS78.apartS (show IsS78 w0 _ g s0_0 t273 t274 from by repeat (first | (with_reducible first | exact HI0.out | apply IsS78.alloc | apply IsS78.drewN | apply IsS78.drew | apply IsS78.set_1 | apply IsS78.set_2) | exact HI0.out)) (by (with_reducible repeat (first | apply Kd.S_alloc | apply Kd.S_drewN | apply Kd.S_drew)); exact HO272.out) (by decide)) hk (fun _ h => h.2)) (fun _ h => h.1)); have n1_ := am (KeepBut.trans (by repeat (first | (with_reducible first | exact HK.out | apply KeepBut.set_ | apply keep_drewN | apply keep_drew | apply keep_alloc) | exact HK.out)) hk (.inl rfl)); have n2_ := am (hb); have n3_ := am (hi); clear HO272; clear HK; clear HB; clear HI0; have HO272 := n0_; have HK := n1_; have HB := n2_; have HI0 := n3_; clear n0_ n1_ n2_ n3_; (try clear hb); (try clear hb2); (try clear hk); (try clear hi)) | ((with_reducible refine gate_callee (f := 71) rfl ?_); refine goesL_ (some 19) rfl rfl Try.func71 (by kernel_rfl) rfl #[.pointer (some ⟨g, 0, none⟩), .int .i64 14] rfl (by (try simp only [mta, mco, mni]); first | done | rfl | (simp only [lnd, lnt]; rfl)) ?_; (with_reducible refine (spec_l00Src_pick.calls g s0_0 t276 t277 14 t278 t279 t280 w0 _ ?side1 ?side2 A9.out).mono ?_); (case side1 => repeat (first | (with_reducible first | exact HI0.out | apply IsS78.alloc | apply IsS78.drewN | apply IsS78.drew | apply IsS78.set_1 | apply IsS78.set_2) | exact HI0.out)); (case side2 => repeat (first | (with_reducible first | exact HB.out | apply bal | apply pdn | apply bd1 | refine bst ?_ (IsS78.ge HI0.out)) | exact HB.out)); rintro e w32 ⟨rfl, hi, hb, hk⟩; refine ⟨_, rfl, ?_⟩; have n0_ := am (Kd.S_mono (Kd.S_keep (IsS78.apartS (show IsS78 w0 _ g s0_0 t276 t277 from by repeat (first | (with_reducible first | exact HI0.out | apply IsS78.alloc | apply IsS78.drewN | apply IsS78.drew | apply IsS78.set_1 | apply IsS78.set_2) | exact HI0.out)) (by (with_reducible repeat (first | apply Kd.S_alloc | apply Kd.S_drewN | apply Kd.S_drew)); exact HO272.out) (by decide)) hk (fun _ h => h.2)) (fun _ h => h.1)); have n1_ := am (KeepBut.trans (by repeat (first | (with_reducible first | exact HK.out | apply KeepBut.set_ | apply keep_drewN | apply keep_drew | apply keep_alloc) | exact HK.out)) hk (.inl rfl)); have n2_ := am (hb); have n3_ := am (hi); clear HO272; clear HK; clear HB; clear HI0; have HO272 := n0_; have HK := n1_; have HB := n2_; have HI0 := n3_; clear n0_ n1_ n2_ n3_; (try clear hb); (try clear hb2); (try clear hk); (try clear hi)) | ((with_reducible refine gate_dst (N := 38) rfl ?_); refine Kd.R_lit (Kd.int .i64) _ 2 ?hg (N := 38) ?hd (xs := ([0, 60, 61] : List Int)) (inner := [.int .i64 0, .int .i64 60, .int .i64 61]) (ok := fun _ => True) (okp := fun _ => True) ?hr ?hp (fun _ hk => hk) trivial (Below.refl _ _) (Nat.le_refl _) (by simp) ?_; (case hd => rfl); (case hg => rfl); (case hr => first | (go_simp; done) | (go_simp; rfl)); (case hp => exact (Reps.one (show Kd.M (Kd.int .i64) _ _ _ 0 [.int .i64 0] from rfl) (Reps.one (show Kd.M (Kd.int .i64) _ _ _ 60 [.int .i64 60] from rfl) (Reps.one (show Kd.M (Kd.int .i64) _ _ _ 61 [.int .i64 61] from rfl) (Reps.none _ _))))); intro v287 w33 ho34 hb hg_ hnew_; clear hg_ hnew_; (first | rw [← Ny286.out] at ho34 | (simp only [Int.reduceToNat] at ho34; rw [← Ny286.out] at ho34)); have n0_ := am (Kd.S_elder' (by (with_reducible repeat (first | apply Kd.S_alloc | apply Kd.S_drewN | apply Kd.S_drew)); exact HO272.out) (Kd.R_base ho34) hb); have n1_ := am (Kd.R_lower ho34 (keep_size (w := w) (g := g) (row := none) (by repeat (first | (with_reducible first | exact HK.out | apply KeepBut.set_ | apply keep_drewN | apply keep_drew | apply keep_alloc) | exact HK.out)))); have n2_ := am (IsS78.below (by repeat (first | (with_reducible first | exact HI0.out | apply IsS78.alloc | apply IsS78.drewN | apply IsS78.drew | apply IsS78.set_1 | apply IsS78.set_2) | exact HI0.out)) hb); have n3_ := am (KeepBut.trans (by repeat (first | (with_reducible first | exact HK.out | apply KeepBut.set_ | apply keep_drewN | apply keep_drew | apply keep_alloc) | exact HK.out)) (KeepBut.of_below hb g none) (.inl rfl)); have n4_ := am (below_step (by repeat (first | (with_reducible first | exact HB.out | apply bal | apply pdn | apply bd1 | refine bst ?_ (IsS78.ge HI0.out)) | exact HB.out)) hb); clear HO272; clear HI0; clear HK; clear HB; have HO272 := n0_; have HO288 := n1_; have HI0 := n2_; have HK := n3_; have HB := n4_; clear n0_ n1_ n2_ n3_ n4_; clear hb ho34; obtain ⟨Ao35, co35, eo35⟩ := Kd.R_slice HO288.out; subst eo35) | ((with_reducible refine gate_callee (f := 72) rfl ?_); refine goesL_ (some 39) rfl rfl Try.func72 (by kernel_rfl) rfl #[.pointer (some ⟨g, 0, none⟩), .slice Ao35 y286.length co35] rfl (by (try simp only [mta, mco, mni]); first | done | rfl | (simp only [lnd, lnt]; rfl)) ?_; (with_reducible refine (spec_l00Src_among.calls g s0_0 t279 t280 _ _ y286 t289 t290 t291 w0 _ ?side1 ?side2 ?side3 ?side4 ?side5 A24.out).mono ?_); (case side1 => repeat (first | (with_reducible first | exact HI0.out | apply IsS78.alloc | apply IsS78.drewN | apply IsS78.drew | apply IsS78.set_1 | apply IsS78.set_2) | exact HI0.out)); (case side2 => repeat (first | (with_reducible first | exact HB.out | apply bal | apply pdn | apply bd1 | refine bst ?_ (IsS78.ge HI0.out)) | exact HB.out)); (case side3 => repeat (first | exact (Kd.R_reads' HO288.out).2.2 | (with_reducible first | apply kca | apply kcn | apply kcd))); (case side4 => exact (Kd.R_reads' HO288.out).2.1); (case side5 => exact far_slice (IsS78.own_ne HI0.out HO288.out (by decide))); rintro e w36 ⟨rfl, hi, hb, hk⟩; refine ⟨_, rfl, ?_⟩; have n0_ := am (Kd.S_mono (Kd.S_keep (IsS78.apartS (show IsS78 w0 _ g s0_0 t279 t280 from by repeat (first | (with_reducible first | exact HI0.out | apply IsS78.alloc | apply IsS78.drewN | apply IsS78.drew | apply IsS78.set_1 | apply IsS78.set_2) | exact HI0.out)) (by (with_reducible repeat (first | apply Kd.S_alloc | apply Kd.S_drewN | apply Kd.S_drew)); exact HO272.out) (by decide)) hk (fun _ h => h.2)) (fun _ h => h.1)); have n1_ := am (Kd.R_mono (Kd.R_keep (IsS78.apart (show IsS78 w0 _ g s0_0 t279 t280 from by repeat (first | (with_reducible first | exact HI0.out | apply IsS78.alloc | apply IsS78.drewN | apply IsS78.drew | apply IsS78.set_1 | apply IsS78.set_2) | exact HI0.out)) (by (with_reducible repeat (first | apply kra | apply krn | apply krd)); exact HO288.out) (by decide)) hk (fun _ h => h.2)) (fun _ h => h.1)); have n2_ := am (KeepBut.trans (by repeat (first | (with_reducible first | exact HK.out | apply KeepBut.set_ | apply keep_drewN | apply keep_drew | apply keep_alloc) | exact HK.out)) hk (.inl rfl)); have n3_ := am (hb); have n4_ := am (hi); clear HO272; clear HO288; clear HK; clear HB; clear HI0; have HO272 := n0_; have HO288 := n1_; have HK := n2_; have HB := n3_; have HI0 := n4_; clear n0_ n1_ n2_ n3_ n4_; (try clear hb); (try clear hb2); (try clear hk); (try clear hi); have p27 : 0 ≤ (t275 : Int) := of_decide_eq_true (by first | (with_reducible assumption) | assumption); have q27 : (t275 : Int) < ((t270.length : Int) : Int) := of_decide_eq_true (by first | (with_reducible assumption) | assumption); obtain ⟨go27, co27, eo27, gb27, gl27, cl27, HG27⟩ := Kd.S_form HO272.out (by omega); (first | cases eo27 | (injection eo27 with ea_ en_ ec_; (first | subst ea_ | (injection ea_ with ea_; subst ea_)); subst ec_; clear en_)); have GB27 := am gb27; have GG27 := am HG27; clear gb27 gl27 HG27; obtain ⟨_, ce27, hcl27, hM27, hcc27, hfr27, _, _⟩ := Kd.S_elem HO272.out z43 (t275 : Int) p27 q27; obtain ⟨ve27_2, rfl, ge27_2⟩ := k43_openM hM27; have hx27_0 : w36.cell? ⟨go27, (t275 : Int).toNat * 4, none⟩ = some (.int .i64 ((rd_T43 t270 t275).f0)) := hcc27 0 _ rfl; have hx27_1 : w36.cell? ⟨go27, (t275 : Int).toNat * 4 + 1, none⟩ = some (.int .i64 ((rd_T43 t270 t275).f1)) := hcc27 1 _ rfl; have hx27_2 : w36.cell? ⟨go27, (t275 : Int).toNat * 4 + 2, none⟩ = some (ve27_2) := hcc27 2 _ rfl; have hx27_3 : w36.cell? ⟨go27, (t275 : Int).toNat * 4 + 3, none⟩ = some (.bool ((rd_T43 t270 t275).f3)) := hcc27 3 _ rfl; have hf27_0 : w36.frozen? ⟨go27, (t275 : Int).toNat * 4, none⟩ = false := hfr27 0; have hf27_1 : w36.frozen? ⟨go27, (t275 : Int).toNat * 4 + 1, none⟩ = false := hfr27 1; have hf27_2 : w36.frozen? ⟨go27, (t275 : Int).toNat * 4 + 2, none⟩ = false := hfr27 2; have hf27_3 : w36.frozen? ⟨go27, (t275 : Int).toNat * 4 + 3, none⟩ = false := hfr27 3; clear hcl27 hcc27 hfr27 hM27; replace p27 := eq_true p27; replace q27 := eq_true q27; have n_ := am (Kd.S_mono (ok' := (fun k_ => some k_ ≠ (.slice Ao35 y286.length co35 : Value).ownBlock)) HO272.out (fun k_ hk => hk.2)); clear HO272; have HO272 := n_; clear n_; have HX37 := am (show Kd.S k43 43 w36 w.heap.size (fun k_ => ((fun k_ => some k_ ≠ (.slice Ao35 y286.length co35 : Value).ownBlock)) k_ ∧ ¬ ((fun _ => False)) k_) (.slice (some ⟨go27, 0, none⟩) t270.length co30) t270 from (by (with_reducible repeat (first | apply Kd.S_alloc | apply Kd.S_drewN | apply Kd.S_drew)); exact Kd.S_mono HO272.out (fun k_ hk => ⟨hk, fun e_ => e_⟩))); obtain ⟨oki37, ce37, hcl37, hM37, hcc37, hfr37, hoki37, hH37⟩ := Kd.S_elem HX37.out z43 (t275 : Int) (of_decide_eq_true (by first | (with_reducible assumption) | assumption)) (by have h_ : (t275 : Int) < ((t270.length : Int) : Int) := of_decide_eq_true (by first | (with_reducible assumption) | assumption); first | exact h_ | (have e_ := (Kd.S_reads' HO272.out).1; omega) | simpa using h_); obtain ⟨ve37_2, rfl, ge37_2⟩ := k43_openM hM37; have HP37 := Kd.S_seg hH37 (of_decide_eq_true (by first | (with_reducible assumption) | assumption)) (by have h_ : (t275 : Int) < ((t270.length : Int) : Int) := of_decide_eq_true (by first | (with_reducible assumption) | assumption); first | exact h_ | (have e_ := (Kd.S_reads' HO272.out).1; omega) | simpa using h_) (seg := [.int .i64 t289]) (j := 1) (show 2 ≤ 4 from by decide) (x' := (⟨(rd_T43 t270 t275).f0, t289, (rd_T43 t270 t275).f2, (rd_T43 t270 t275).f3⟩ : S43)) (k43_mkM _ _ _ (⟨(rd_T43 t270 t275).f0, t289, (rd_T43 t270 t275).f2, (rd_T43 t270 t275).f3⟩ : S43) (Kd.R_mono ge37_2 (fun _ h_ => Or.inl h_))) (fun _ hk => hk) (fun k_ hk_ => hk_.elim); have hx37_1 := hcc37 1 _ rfl; (try simp only [show (k43).sz = 4 from rfl, Nat.mul_one, Nat.add_zero] at hx37_1); have hf37_1 := hfr37 1; (try simp only [show (k43).sz = 4 from rfl, Nat.mul_one, Nat.add_zero] at hf37_1); clear hcl37 hcc37 hfr37 hM37 hoki37 hH37) | ((with_reducible refine gate_store (t := 2) (p := 41) rfl ?_); refine store_event (t := 2) (p := 41) (v := ?vo_w38) (w1 := (w36.setCell ⟨go27, (t275 : Int).toNat * 4 + 1, none⟩ (.int .i64 t289))) ?hg ?ho ?hn ?hr ?_; (case ho => rfl); (case hg => rfl); (case hn => rfl); (case hr => first | (go_simp; done) | (go_simp; rfl)); intro w38 hw; have hg : w36.grownBy w38 (some go27) := (by rw [hw]; exact HP37.2); have hp_ : Kd.S k43 43 w38 w.heap.size (fun k_ => some k_ ≠ (.slice Ao35 y286.length co35 : Value).ownBlock) (.slice (some ⟨go27, 0, none⟩) t270.length co30) y292 := (by rw [hw, Ny292.out]; exact HP37.1); clear HP37; have n0_ := am (IsS78.grown (by repeat (first | (with_reducible first | exact HI0.out | apply IsS78.alloc | apply IsS78.drewN | apply IsS78.drew | apply IsS78.set_1 | apply IsS78.set_2) | exact HI0.out)) hg (IsS78.own_neS HI0.out HO272.out (by decide))); have n1_ := am (hp_); have n2_ := am (Kd.R_over' (v := (.slice (some ⟨go27, 0, none⟩) t270.length co30)) (by (with_reducible repeat (first | apply kra | apply krn | apply krd)); exact HO288.out) (Kd.S_typed HO272.out) (by decide) hg); have n3_ := am ((by rw [hw]; exact bst (HB.out) (Nat.le_trans HL.out GB27.out) : Below w0.heap.size w0 w38)); have n4_ := am (KeepBut.trans (by repeat (first | (with_reducible first | exact HK.out | apply KeepBut.set_ | apply keep_drewN | apply keep_drew | apply keep_alloc) | exact HK.out)) (KeepBut.of_grown hg g) (Kd.S_base2 HO272.out)); clear HI0; clear HO272; clear HO288; clear HB; clear HK; have HI0 := n0_; have HO272 := n1_; have HO288 := n2_; have HB := n3_; have HK := n4_; clear n0_ n1_ n2_ n3_ n4_; clear hg hw hp_))
      go_ret
      exact ⟨_, by first | rfl | (simp [errW_none, errW_some] <;> rfl) | (simp [*, errW_none, errW_some] <;> rfl), by (with_reducible repeat (first | apply Kd.S_alloc | apply Kd.S_drewN | apply Kd.S_drew)); exact Kd.S_mono HO272.out (fun _ hk => trivial), by repeat (first | (with_reducible first | exact HI0.out | apply IsS78.alloc | apply IsS78.drewN | apply IsS78.drew | apply IsS78.set_1 | apply IsS78.set_2) | exact HI0.out), by repeat (first | (with_reducible first | exact HB.out | apply bal | apply pdn | apply bd1 | refine bst ?_ (IsS78.ge HI0.out)) | exact HB.out), by repeat (first | (with_reducible first | exact HK.out | apply KeepBut.set_ | apply keep_drewN | apply keep_drew | apply keep_alloc) | exact HK.out)⟩
     ·rw [if_neg c26] at H
      exact absurd H (by simp)
    ·rw [if_neg c25] at H
     exact absurd H (by simp)
   ·rw [if_neg c23] at H
    have c23b0 : (t278 == 1) = false := beq_eq_false_iff_ne.mpr c23
    have c23b1 : (t278 != 1) = true := bne_iff_ne.mpr c23
    by_cases c39 : t278 = 2
    ·rw [if_pos c39] at H
     have c39b0 : (t278 == 2) = true := beq_iff_eq.mpr c39
     have c39b1 : (t278 != 2) = false := bne_eq_false_iff_eq.mpr c39
     clear c39
     by_cases c40 : 0 ≤ t275
     ·rw [if_pos c40] at H
      have c40b0 : decide (0 ≤ t275) = true := decide_eq_true c40
      clear c40
      by_cases c41 : t275 < (t270.length : Int)
      ·rw [if_pos c41] at H
       have c41b0 : decide (t275 < (t270.length : Int)) = true := decide_eq_true c41
       clear c41
       by_cases c42 : ((rd_T43 t270 t275).f2).length < 17592186044416
       ·rw [if_pos c42] at H
        have LMc42 := am c42
        clear c42
        obtain ⟨y294, hy294⟩ : ∃ y_ : List Int, y_ = (((rd_T43 t270 t275).f2) ++ [5]) := ⟨_, rfl⟩
        replace H : (some ((t270.set (t275 : Int).toNat (⟨(rd_T43 t270 t275).f0, (rd_T43 t270 t275).f1, y294, (rd_T43 t270 t275).f3⟩ : S43)), t279, t280)) = some (r1, r2, r3) := by first | (rw [hy294]; with_reducible exact H) | (have H2_ := (Option.bind_some _ _).symm.trans H; rw [hy294]; with_reducible exact H2_) | (have H2_ := (Option.bind_some _ _).symm.trans H; with_reducible exact H2_) | with_reducible exact H | (rw [hy294]; exact H) | exact H
        have Ny294 := am hy294
        clear hy294
        obtain ⟨y297, hy297⟩ : ∃ y_ : List (S43), y_ = (t270.set (t275 : Int).toNat (⟨(rd_T43 t270 t275).f0, (rd_T43 t270 t275).f1, y294, (rd_T43 t270 t275).f3⟩ : S43)) := ⟨_, rfl⟩
        replace H : (some (y297, t279, t280)) = some (r1, r2, r3) := by first | (rw [hy297]; with_reducible exact H) | (have H2_ := (Option.bind_some _ _).symm.trans H; rw [hy297]; with_reducible exact H2_) | (have H2_ := (Option.bind_some _ _).symm.trans H; with_reducible exact H2_) | with_reducible exact H | (rw [hy297]; exact H) | exact H
        have Ny297 := am hy297
        clear hy297
        simp only [Option.some.injEq, Prod.mk.injEq] at H
        obtain ⟨rfl, rfl, rfl⟩ := H
        go_enter Try.func69, Try.ntmps69
        go_wp2_with (first | ((with_reducible refine gate_callee (f := 71) rfl ?_); refine goesL_ (some 7) rfl rfl Try.func71 (by kernel_rfl) rfl #[.pointer (some ⟨g, 0, none⟩), .int .i64 3] rfl (by (try simp only [mta, mco, mni]); first | done | rfl | (simp only [lnd, lnt]; rfl)) ?_; (with_reducible refine (spec_l00Src_pick.calls g s0_0 s0_1 s0_2 3 t267 t268 t269 w0 _ ?side1 ?side2 A2.out).mono ?_); (case side1 => repeat (first | (with_reducible first | exact HI0.out | apply IsS78.alloc | apply IsS78.drewN | apply IsS78.drew | apply IsS78.set_1 | apply IsS78.set_2) | exact HI0.out)); (case side2 => repeat (first | (with_reducible first | exact HB.out | apply bal | apply pdn | apply bd1 | refine bst ?_ (IsS78.ge HI0.out)) | exact HB.out)); rintro e w44 ⟨rfl, hi, hb, hk⟩; refine ⟨_, rfl, ?_⟩; have n0_ := am (KeepBut.trans (by repeat (first | (with_reducible first | exact HK.out | apply KeepBut.set_ | apply keep_drewN | apply keep_drew | apply keep_alloc) | exact HK.out)) hk (.inl rfl)); have n1_ := am (hb); have n2_ := am (hi); clear HK; clear HB; clear HI0; have HK := n0_; have HB := n1_; have HI0 := n2_; clear n0_ n1_ n2_; (try clear hb); (try clear hb2); (try clear hk); (try clear hi)) | ((with_reducible refine gate_callee (f := 91) rfl ?_); refine goesL_ (some 9) rfl rfl Try.func91 (by kernel_rfl) rfl #[.pointer (some ⟨g, 0, none⟩), .int .i64 (wrap64 (2 + t267))] rfl (by (try simp only [mta, mco, mni]); first | done | rfl | (simp only [lnd, lnt]; rfl)) ?_; (with_reducible refine (spec_l13Draw.calls k g s0_0 t268 t269 (wrap64 (2 + t267)) t270 t273 t274 w0 _ ?side1 ?side2 A3.out).mono ?_); (case side1 => repeat (first | (with_reducible first | exact HI0.out | apply IsS78.alloc | apply IsS78.drewN | apply IsS78.drew | apply IsS78.set_1 | apply IsS78.set_2) | exact HI0.out)); (case side2 => repeat (first | (with_reducible first | exact HB.out | apply bal | apply pdn | apply bd1 | refine bst ?_ (IsS78.ge HI0.out)) | exact HB.out)); rintro e w45 ⟨v271, rfl, ho0, hi, hb, hk⟩; refine ⟨_, rfl, ?_⟩; have n0_ := am (Kd.S_lower ho0 (keep_size (w := w) (g := g) (row := none) (by repeat (first | (with_reducible first | exact HK.out | apply KeepBut.set_ | apply keep_drewN | apply keep_drew | apply keep_alloc) | exact HK.out)))); have n1_ := am (KeepBut.trans (by repeat (first | (with_reducible first | exact HK.out | apply KeepBut.set_ | apply keep_drewN | apply keep_drew | apply keep_alloc) | exact HK.out)) hk (.inl rfl)); have n2_ := am (hb); have n3_ := am (hi); clear HK; clear HB; clear HI0; have HO272 := n0_; have HK := n1_; have HB := n2_; have HI0 := n3_; clear n0_ n1_ n2_ n3_; (try clear hb); (try clear hb2); (try clear hk); (try clear hi); (try clear ho0); obtain ⟨Ao46, co46, eo46⟩ := Kd.S_slice HO272.out; subst eo46) | ((with_reducible refine gate_callee (f := 71) rfl ?_); refine goesL_ (some 17) rfl rfl Try.func71 (by kernel_rfl) rfl #[.pointer (some ⟨g, 0, none⟩), .int .i64 (t270.length : Int)] rfl (by (try simp only [mta, mco, mni]); first | done | rfl | (simp only [lnd, lnt]; rfl)) ?_; (with_reducible refine (spec_l00Src_pick.calls g s0_0 t273 t274 (t270.length : Int) t275 t276 t277 w0 _ ?side1 ?side2 A8.out).mono ?_); (case side1 => repeat (first | (with_reducible first | exact HI0.out | apply IsS78.alloc | apply IsS78.drewN | apply IsS78.drew | apply IsS78.set_1 | apply IsS78.set_2) | exact HI0.out)); (case side2 => repeat (first | (with_reducible first | exact HB.out | apply bal | apply pdn | apply bd1 | refine bst ?_ (IsS78.ge HI0.out)) | exact HB.out)); rintro e w47 ⟨rfl, hi, hb, hk⟩; refine ⟨_, rfl, ?_⟩; have n0_ := am (Kd.S_mono (Kd.S_keep (IsS78.apartS (show IsS78 w0 _ g s0_0 t273 t274 from by repeat (first | (with_reducible first | exact HI0.out | apply IsS78.alloc | apply IsS78.drewN | apply IsS78.drew | apply IsS78.set_1 | apply IsS78.set_2) | exact HI0.out)) (by (with_reducible repeat (first | apply Kd.S_alloc | apply Kd.S_drewN | apply Kd.S_drew)); exact HO272.out) (by decide)) hk (fun _ h => h.2)) (fun _ h => h.1)); have n1_ := am (KeepBut.trans (by repeat (first | (with_reducible first | exact HK.out | apply KeepBut.set_ | apply keep_drewN | apply keep_drew | apply keep_alloc) | exact HK.out)) hk (.inl rfl)); have n2_ := am (hb); have n3_ := am (hi); clear HO272; clear HK; clear HB; clear HI0; have HO272 := n0_; have HK := n1_; have HB := n2_; have HI0 := n3_; clear n0_ n1_ n2_ n3_; (try clear hb); (try clear hb2); (try clear hk); (try clear hi)) | ((with_reducible refine gate_callee (f := 71) rfl ?_); refine goesL_ (some 19) rfl rfl Try.func71 (by kernel_rfl) rfl #[.pointer (some ⟨g, 0, none⟩), .int .i64 14] rfl (by (try simp only [mta, mco, mni]); first | done | rfl | (simp only [lnd, lnt]; rfl)) ?_; (with_reducible refine (spec_l00Src_pick.calls g s0_0 t276 t277 14 t278 t279 t280 w0 _ ?side1 ?side2 A9.out).mono ?_); (case side1 => repeat (first | (with_reducible first | exact HI0.out | apply IsS78.alloc | apply IsS78.drewN | apply IsS78.drew | apply IsS78.set_1 | apply IsS78.set_2) | exact HI0.out)); (case side2 => repeat (first | (with_reducible first | exact HB.out | apply bal | apply pdn | apply bd1 | refine bst ?_ (IsS78.ge HI0.out)) | exact HB.out)); rintro e w48 ⟨rfl, hi, hb, hk⟩; refine ⟨_, rfl, ?_⟩; have n0_ := am (Kd.S_mono (Kd.S_keep (IsS78.apartS (show IsS78 w0 _ g s0_0 t276 t277 from by repeat (first | (with_reducible first | exact HI0.out | apply IsS78.alloc | apply IsS78.drewN | apply IsS78.drew | apply IsS78.set_1 | apply IsS78.set_2) | exact HI0.out)) (by (with_reducible repeat (first | apply Kd.S_alloc | apply Kd.S_drewN | apply Kd.S_drew)); exact HO272.out) (by decide)) hk (fun _ h => h.2)) (fun _ h => h.1)); have n1_ := am (KeepBut.trans (by repeat (first | (with_reducible first | exact HK.out | apply KeepBut.set_ | apply keep_drewN | apply keep_drew | apply keep_alloc) | exact HK.out)) hk (.inl rfl)); have n2_ := am (hb); have n3_ := am (hi); clear HO272; clear HK; clear HB; clear HI0; have HO272 := n0_; have HK := n1_; have HB := n2_; have HI0 := n3_; clear n0_ n1_ n2_ n3_; (try clear hb); (try clear hb2); (try clear hk); (try clear hi); have p293 : 0 ≤ (t275 : Int) := of_decide_eq_true (by first | (with_reducible assumption) | assumption); have q293 : t275 < (t270.length : Int) := of_decide_eq_true (by first | (with_reducible assumption) | assumption); obtain ⟨ad293, A293_2, c293_2, e293, hx293_0, hx293_1, hx293_2, hx293_3, hl293_2, hi293_2⟩ := at_T43 (Kd.S_reads' HO272.out).2.2 t275 p293 q293; cases e293; obtain ⟨ce293, hce293, hMe293, hcc293⟩ := Kd.S_get HO272.out z43 t275 p293 (by first | exact q293 | exact of_decide_eq_true (by first | (with_reducible assumption) | assumption) | (have e_ := (Kd.S_reads' HO272.out).1; omega)); obtain ⟨ve293_2, rfl, ge293_2⟩ := k43_openM hMe293; have hv293_2 := hcc293 2 _ rfl; rw [add_field _ _ 2 (by omega)] at hv293_2; replace hv293_2 := Option.some.inj (hv293_2.symm.trans hx293_2); rw [hv293_2] at ge293_2; have HL293_2 := am (show Kd.R (Kd.int .i64) 2 _ _ _ _ ((rd_T43 t270 t275).f2) from ge293_2); clear hv293_2 ge293_2; have HX293_2 := am hx293_2; clear hcc293 hce293; have HR293_2 := am hi293_2; have HC293_2 := am hl293_2; clear hi293_2 hl293_2; replace p293 := eq_true p293; replace q293 := eq_true q293; obtain ⟨go49, co49, eo49, gb49, gl49, cl49, HG49⟩ := Kd.S_form HO272.out (by have h_ : (t275 : Int) < ((t270.length : Int) : Int) := of_decide_eq_true (by first | (with_reducible assumption) | assumption); have h2_ : 0 ≤ (t275 : Int) := (of_decide_eq_true (by first | (with_reducible assumption) | assumption)); omega); (first | cases eo49 | (injection eo49 with ea_ en_ ec_; (first | subst ea_ | (injection ea_ with ea_; subst ea_)); subst ec_; clear en_)); have GB49 := am gb49; have GG49 := am HG49; clear gb49 gl49 HG49; (first | simp only [add_plain] at hx293_0 | skip); (first | simp only [add_plain] at hx293_1 | skip); (first | simp only [add_plain] at hx293_2 | skip); (first | simp only [add_plain] at hx293_3 | skip); obtain ⟨oki49, ce49, hcl49, hM49, hcc49, _, _, hH49⟩ := Kd.S_elem HO272.out z43 (t275 : Int) (of_decide_eq_true (by first | (with_reducible assumption) | assumption)) (by have h_ : (t275 : Int) < ((t270.length : Int) : Int) := of_decide_eq_true (by first | (with_reducible assumption) | assumption); first | exact h_ | (have e_ := (Kd.S_reads' HO272.out).1; omega) | simpa using h_); obtain ⟨ve49_2, rfl, ge49_2⟩ := k43_openM hM49; have hv49 := hcc49 2 _ rfl; have hX49 := HX293_2.out; (try simp only [add_plain] at hX49); (try simp only [Nat.add_zero] at hv49); replace hv49 := Option.some.inj (hv49.symm.trans hX49); subst hv49; clear hX49 hcc49 hcl49; have UU49 := am (show Kd.R (Kd.int .i64) 2 _ w.heap.size oki49 (.slice A293_2 ((rd_T43 t270 t275).f2).length c293_2) ((rd_T43 t270 t275).f2) from ge49_2); have HH49 := am hH49; have HN49 := am (Kd.S_reads' HO272.out).1; clear hH49 ge49_2) | ((with_reducible refine gate_builtin (b := .append) (xs := #[.tmp 50, .tmp 51]) rfl ?_); at_builtin; refine Kd.R_append (Kd.int .i64) w.heap.size rfl (.tmp 50) (.tmp 51) 22 2 (.int .i64 0) 8 rfl Try.underlying22 info2 rfl (by decide) (by omega) (.slice A293_2 ((rd_T43 t270 t275).f2).length c293_2) ((rd_T43 t270 t275).f2) 5 [.int .i64 5] (fun k_ => oki49 k_ ∨ ((fun _ => True)) k_ ∧ w48.heap.size ≤ k_) (fun _ => False) rfl rfl ?aP (fun _ hk => hk.elim) ?aF ?aO (Below.refl _ _) ?aS ?aL ?_; (case aP => exact rfl); (case aF => exact (fun k_ hk => .inr ⟨trivial, hk⟩)); (case aO => exact (by (with_reducible repeat (first | apply kra | apply krn | apply krd)); exact Kd.R_mono UU49.out (fun _ hk => .inl hk))); (case aS => exact (keep_size (w := w) (g := g) (row := none) (by repeat (first | (with_reducible first | exact HK.out | apply KeepBut.set_ | apply keep_drewN | apply keep_drew | apply keep_alloc) | exact HK.out)))); (case aL => have := LMc42.out; omega); intro v295 w50 ho hb hg hat; rw [← Ny294.out] at ho; have n0_ := am (IsS78.grown (by repeat (first | (with_reducible first | exact HI0.out | apply IsS78.alloc | apply IsS78.drewN | apply IsS78.drew | apply IsS78.set_1 | apply IsS78.set_2) | exact HI0.out)) hg (IsS78.own_ne HI0.out HL293_2.out (by decide))); have n1_ := am (below_weaken (by repeat (first | (with_reducible first | exact HB.out | apply bal | apply pdn | apply bd1 | refine bst ?_ (IsS78.ge HI0.out)) | exact HB.out)) HL.out hb); have n2_ := am (KeepBut.trans (by repeat (first | (with_reducible first | exact HK.out | apply KeepBut.set_ | apply keep_drewN | apply keep_drew | apply keep_alloc) | exact HK.out)) (KeepBut.of_grown hg g) (Kd.R_base2 HL293_2.out)); have n3_ := am (Kd.H_grown (Kd.H_widen (by repeat (first | exact HH49.out | refine Kd.H_alloc ?_ _ | refine Kd.H_drewN ?_ _ | refine Kd.H_drew ?_))) hg (fun k_ e_ => .inl (UU49.out.1 k_ e_))); have n4_ := am (ho); clear HI0; clear HB; clear HK; clear HH49; clear HO272; clear UU49; clear HL293_2; have HI0 := n0_; have HB := n1_; have HK := n2_; have HH49 := n3_; have HO296 := n4_; clear n0_ n1_ n2_ n3_ n4_; clear ho hb hg hat; have p43 : 0 ≤ (t275 : Int) := of_decide_eq_true (by first | (with_reducible assumption) | assumption); have q43 : (t275 : Int) < ((t270.length : Int) : Int) := of_decide_eq_true (by first | (with_reducible assumption) | assumption); replace p43 := eq_true p43; replace q43 := eq_true q43; obtain ⟨Ao53, co53, eo53⟩ := Kd.R_slice HO296.out; subst eo53; obtain ⟨_, _, hraw51, _, _, hcc51, _⟩ := Kd.H_raw HH49.out (of_decide_eq_true (by first | (with_reducible assumption) | assumption)) (by have h_ : (t275 : Int) < ((t270.length : Int) : Int) := of_decide_eq_true (by first | (with_reducible assumption) | assumption); first | exact h_ | (have e_ := (HN49.out); omega) | simpa using h_); obtain ⟨_, hfr51⟩ := Kd.H_at HH49.out (of_decide_eq_true (by first | (with_reducible assumption) | assumption)) (by have h_ : (t275 : Int) < ((t270.length : Int) : Int) := of_decide_eq_true (by first | (with_reducible assumption) | assumption); first | exact h_ | (have e_ := (HN49.out); omega) | simpa using h_); have hx51_0 := hcc51 2 _ rfl; have hf51_0 := hfr51 2; (try rw [show (k43).sz = 4 from rfl] at hx51_0); (try rw [show (k43).sz = 4 from rfl] at hf51_0); have HP51 := Kd.S_seg0 HH49.out (of_decide_eq_true (by first | (with_reducible assumption) | assumption)) (by have h_ : (t275 : Int) < ((t270.length : Int) : Int) := of_decide_eq_true (by first | (with_reducible assumption) | assumption); first | exact h_ | (have e_ := (HN49.out); omega) | simpa using h_) (seg := [.slice Ao53 y294.length co53]) (j := 2) (show 3 ≤ 4 from by decide) (x' := (⟨(rd_T43 t270 t275).f0, (rd_T43 t270 t275).f1, y294, (rd_T43 t270 t275).f3⟩ : S43)) (k43_mkM _ _ _ (⟨(rd_T43 t270 t275).f0, (rd_T43 t270 t275).f1, y294, (rd_T43 t270 t275).f3⟩ : S43) HO296.out) (fun _ hk => hk); clear hcc51 hfr51) | ((with_reducible refine gate_store (t := 22) (p := 54) rfl ?_); refine store_event (t := 22) (p := 54) (v := ?vo_w52) (w1 := (w50.setCell ⟨go49, (t275 : Int).toNat * 4 + 2, none⟩ (.slice Ao53 y294.length co53))) ?hg ?ho ?hn ?hr ?_; (case ho => rfl); (case hg => rfl); (case hn => rfl); (case hr => first | (go_simp; done) | (go_simp; rfl)); intro w52 hw; have hg : w50.grownBy w52 (some go49) := (by rw [hw]; exact HP51.2); have hp_ : Kd.S k43 43 w52 w.heap.size (fun _ => True) (.slice (some ⟨go49, 0, none⟩) t270.length co46) y297 := (by rw [hw, Ny297.out]; exact HP51.1); clear HP51; have n0_ := am (IsS78.grown (by repeat (first | (with_reducible first | exact HI0.out | apply IsS78.alloc | apply IsS78.drewN | apply IsS78.drew | apply IsS78.set_1 | apply IsS78.set_2) | exact HI0.out)) hg (IsS78.own_ne HI0.out hraw51 (by decide))); have n1_ := am ((by rw [hw]; exact bst HB.out (Nat.le_trans HL.out GB49.out) : Below w0.heap.size w0 w52)); have n2_ := am (KeepBut.trans (by repeat (first | (with_reducible first | exact HK.out | apply KeepBut.set_ | apply keep_drewN | apply keep_drew | apply keep_alloc) | exact HK.out)) (KeepBut.of_grown hg g) (Kd.R_base2 hraw51)); have n3_ := am (hp_); clear HI0; clear HB; clear HK; clear HO296; clear HH49; have HI0 := n0_; have HB := n1_; have HK := n2_; have HO272 := n3_; clear n0_ n1_ n2_ n3_; clear hg hw hp_ hraw51))
        go_ret
        exact ⟨_, by first | rfl | (simp [errW_none, errW_some] <;> rfl) | (simp [*, errW_none, errW_some] <;> rfl), by (with_reducible repeat (first | apply Kd.S_alloc | apply Kd.S_drewN | apply Kd.S_drew)); exact HO272.out, by repeat (first | (with_reducible first | exact HI0.out | apply IsS78.alloc | apply IsS78.drewN | apply IsS78.drew | apply IsS78.set_1 | apply IsS78.set_2) | exact HI0.out), by repeat (first | (with_reducible first | exact HB.out | apply bal | apply pdn | apply bd1 | refine bst ?_ (IsS78.ge HI0.out)) | exact HB.out), by repeat (first | (with_reducible first | exact HK.out | apply KeepBut.set_ | apply keep_drewN | apply keep_drew | apply keep_alloc) | exact HK.out)⟩
       ·rw [if_neg c42] at H
        exact absurd H (by simp)
      ·rw [if_neg c41] at H
       exact absurd H (by simp)
     ·rw [if_neg c40] at H
      exact absurd H (by simp)
    ·rw [if_neg c39] at H
     have c39b0 : (t278 == 2) = false := beq_eq_false_iff_ne.mpr c39
     have c39b1 : (t278 != 2) = true := bne_iff_ne.mpr c39
     by_cases c54 : t278 = 3
     ·rw [if_pos c54] at H
      have c54b0 : (t278 == 3) = true := beq_iff_eq.mpr c54
      have c54b1 : (t278 != 3) = false := bne_eq_false_iff_eq.mpr c54
      clear c54
      by_cases c55 : 0 ≤ t275
      ·rw [if_pos c55] at H
       have c55b0 : decide (0 ≤ t275) = true := decide_eq_true c55
       clear c55
       by_cases c56 : t275 < (t270.length : Int)
       ·rw [if_pos c56] at H
        have c56b0 : decide (t275 < (t270.length : Int)) = true := decide_eq_true c56
        clear c56
        obtain ⟨y299, hy299⟩ : ∃ y_ : List Int, y_ = (([16, (-2), 1] : List Int)) := ⟨_, rfl⟩
        replace H : ((spec_l00Src_among.f s0_0 t279 t280 y299).bind fun bt302 => (if 0 < (((rd_T43 t270 t275).f2).length : Int) then (some ((t270.set (t275 : Int).toNat (⟨(rd_T43 t270 t275).f0, (rd_T43 t270 t275).f1, (((rd_T43 t270 t275).f2).set (0 : Int).toNat bt302.1), (rd_T43 t270 t275).f3⟩ : S43)), bt302.2.1, bt302.2.2)) else (none))) = some (r1, r2, r3) := by first | (rw [hy299]; with_reducible exact H) | (have H2_ := (Option.bind_some _ _).symm.trans H; rw [hy299]; with_reducible exact H2_) | (have H2_ := (Option.bind_some _ _).symm.trans H; with_reducible exact H2_) | with_reducible exact H | (rw [hy299]; exact H) | exact H
        have Ny299 := am hy299
        clear hy299
        replace H := Option.bind_eq_some_iff.mp H
        obtain ⟨⟨t302, t303, t304⟩, A570, H⟩ := H
        replace H : (if 0 < (((rd_T43 t270 t275).f2).length : Int) then (some ((t270.set (t275 : Int).toNat (⟨(rd_T43 t270 t275).f0, (rd_T43 t270 t275).f1, (((rd_T43 t270 t275).f2).set (0 : Int).toNat t302), (rd_T43 t270 t275).f3⟩ : S43)), t303, t304)) else (none)) = some (r1, r2, r3) := H
        have A57 := am A570
        clear A570
        by_cases c58 : 0 < (((rd_T43 t270 t275).f2).length : Int)
        ·rw [if_pos c58] at H
         have c58b0 : decide (0 < (((rd_T43 t270 t275).f2).length : Int)) = true := decide_eq_true c58
         have c58b1 : decide (0 < ((rd_T43 t270 t275).f2).length) = true := decide_eq_true (by omega)
         clear c58
         obtain ⟨y305, hy305⟩ : ∃ y_ : List Int, y_ = (((rd_T43 t270 t275).f2).set (0 : Int).toNat t302) := ⟨_, rfl⟩
         replace H : (some ((t270.set (t275 : Int).toNat (⟨(rd_T43 t270 t275).f0, (rd_T43 t270 t275).f1, y305, (rd_T43 t270 t275).f3⟩ : S43)), t303, t304)) = some (r1, r2, r3) := by first | (rw [hy305]; with_reducible exact H) | (have H2_ := (Option.bind_some _ _).symm.trans H; rw [hy305]; with_reducible exact H2_) | (have H2_ := (Option.bind_some _ _).symm.trans H; with_reducible exact H2_) | with_reducible exact H | (rw [hy305]; exact H) | exact H
         have Ny305 := am hy305
         clear hy305
         obtain ⟨y307, hy307⟩ : ∃ y_ : List (S43), y_ = (t270.set (t275 : Int).toNat (⟨(rd_T43 t270 t275).f0, (rd_T43 t270 t275).f1, y305, (rd_T43 t270 t275).f3⟩ : S43)) := ⟨_, rfl⟩
         replace H : (some (y307, t303, t304)) = some (r1, r2, r3) := by first | (rw [hy307]; with_reducible exact H) | (have H2_ := (Option.bind_some _ _).symm.trans H; rw [hy307]; with_reducible exact H2_) | (have H2_ := (Option.bind_some _ _).symm.trans H; with_reducible exact H2_) | with_reducible exact H | (rw [hy307]; exact H) | exact H
         have Ny307 := am hy307
         clear hy307
         simp only [Option.some.injEq, Prod.mk.injEq] at H
         obtain ⟨rfl, rfl, rfl⟩ := H
         go_enter Try.func69, Try.ntmps69
         try go_wp2_with (first | ((with_reducible refine gate_callee (f := 71) rfl ?_); refine goesL_ (some 7) rfl rfl Try.func71 (by kernel_rfl) rfl #[.pointer (some ⟨g, 0, none⟩), .int .i64 3] rfl (by (try simp only [mta, mco, mni]); first | done | rfl | (simp only [lnd, lnt]; rfl)) ?_; (with_reducible refine (spec_l00Src_pick.calls g s0_0 s0_1 s0_2 3 t267 t268 t269 w0 _ ?side1 ?side2 A2.out).mono ?_); (case side1 => repeat (first | (with_reducible first | exact HI0.out | apply IsS78.alloc | apply IsS78.drewN | apply IsS78.drew | apply IsS78.set_1 | apply IsS78.set_2) | exact HI0.out)); (case side2 => repeat (first | (with_reducible first | exact HB.out | apply bal | apply pdn | apply bd1 | refine bst ?_ (IsS78.ge HI0.out)) | exact HB.out)); rintro e w60 ⟨rfl, hi, hb, hk⟩; refine ⟨_, rfl, ?_⟩; have n0_ := am (KeepBut.trans (by repeat (first | (with_reducible first | exact HK.out | apply KeepBut.set_ | apply keep_drewN | apply keep_drew | apply keep_alloc) | exact HK.out)) hk (.inl rfl)); have n1_ := am (hb); have n2_ := am (hi); clear HK; clear HB; clear HI0; have HK := n0_; have HB := n1_; have HI0 := n2_; clear n0_ n1_ n2_; (try clear hb); (try clear hb2); (try clear hk); (try clear hi)) | ((with_reducible refine gate_callee (f := 91) rfl ?_); refine goesL_ (some 9) rfl rfl Try.func91 (by kernel_rfl) rfl #[.pointer (some ⟨g, 0, none⟩), .int .i64 (wrap64 (2 + t267))] rfl (by (try simp only [mta, mco, mni]); first | done | rfl | (simp only [lnd, lnt]; rfl)) ?_; (with_reducible refine (spec_l13Draw.calls k g s0_0 t268 t269 (wrap64 (2 + t267)) t270 t273 t274 w0 _ ?side1 ?side2 A3.out).mono ?_); (case side1 => repeat (first | (with_reducible first | exact HI0.out | apply IsS78.alloc | apply IsS78.drewN | apply IsS78.drew | apply IsS78.set_1 | apply IsS78.set_2) | exact HI0.out)); (case side2 => repeat (first | (with_reducible first | exact HB.out | apply bal | apply pdn | apply bd1 | refine bst ?_ (IsS78.ge HI0.out)) | exact HB.out)); rintro e w61 ⟨v271, rfl, ho0, hi, hb, hk⟩; refine ⟨_, rfl, ?_⟩; have n0_ := am (Kd.S_lower ho0 (keep_size (w := w) (g := g) (row := none) (by repeat (first | (with_reducible first | exact HK.out | apply KeepBut.set_ | apply keep_drewN | apply keep_drew | apply keep_alloc) | exact HK.out)))); have n1_ := am (KeepBut.trans (by repeat (first | (with_reducible first | exact HK.out | apply KeepBut.set_ | apply keep_drewN | apply keep_drew | apply keep_alloc) | exact HK.out)) hk (.inl rfl)); have n2_ := am (hb); have n3_ := am (hi); clear HK; clear HB; clear HI0; have HO272 := n0_; have HK := n1_; have HB := n2_; have HI0 := n3_; clear n0_ n1_ n2_ n3_; (try clear hb); (try clear hb2); (try clear hk); (try clear hi); (try clear ho0); obtain ⟨Ao62, co62, eo62⟩ := Kd.S_slice HO272.out; subst eo62) | ((with_reducible refine gate_callee (f := 71) rfl ?_); refine goesL_ (some 17) rfl rfl Try.func71 (by kernel_rfl) rfl #[.pointer (some ⟨g, 0, none⟩), .int .i64 (t270.length : Int)] rfl (by (try simp only [mta, mco, mni]); first | done | rfl | (simp only [lnd, lnt]; rfl)) ?_; (with_reducible refine (spec_l00Src_pick.calls g s0_0 t273 t274 (t270.length : Int) t275 t276 t277 w0 _ ?side1 ?side2 A8.out).mono ?_); (case side1 => repeat (first | (with_reducible first | exact HI0.out | apply IsS78.alloc | apply IsS78.drewN | apply IsS78.drew | apply IsS78.set_1 | apply IsS78.set_2) | exact HI0.out)); (case side2 => repeat (first | (with_reducible first | exact HB.out | apply bal | apply pdn | apply bd1 | refine bst ?_ (IsS78.ge HI0.out)) | exact HB.out)); rintro e w63 ⟨rfl, hi, hb, hk⟩; refine ⟨_, rfl, ?_⟩; have n0_ := am (Kd.S_mono (Kd.S_keep (IsS78.apartS (show IsS78 w0 _ g s0_0 t273 t274 from by repeat (first | (with_reducible first | exact HI0.out | apply IsS78.alloc | apply IsS78.drewN | apply IsS78.drew | apply IsS78.set_1 | apply IsS78.set_2) | exact HI0.out)) (by (with_reducible repeat (first | apply Kd.S_alloc | apply Kd.S_drewN | apply Kd.S_drew)); exact HO272.out) (by decide)) hk (fun _ h => h.2)) (fun _ h => h.1)); have n1_ := am (KeepBut.trans (by repeat (first | (with_reducible first | exact HK.out | apply KeepBut.set_ | apply keep_drewN | apply keep_drew | apply keep_alloc) | exact HK.out)) hk (.inl rfl)); have n2_ := am (hb); have n3_ := am (hi); clear HO272; clear HK; clear HB; clear HI0; have HO272 := n0_; have HK := n1_; have HB := n2_; have HI0 := n3_; clear n0_ n1_ n2_ n3_; (try clear hb); (try clear hb2); (try clear hk); (try clear hi)) | ((with_reducible refine gate_callee (f := 71) rfl ?_); refine goesL_ (some 19) rfl rfl Try.func71 (by kernel_rfl) rfl #[.pointer (some ⟨g, 0, none⟩), .int .i64 14] rfl (by (try simp only [mta, mco, mni]); first | done | rfl | (simp only [lnd, lnt]; rfl)) ?_; (with_reducible refine (spec_l00Src_pick.calls g s0_0 t276 t277 14 t278 t279 t280 w0 _ ?side1 ?side2 A9.out).mono ?_); (case side1 => repeat (first | (with_reducible first | exact HI0.out | apply IsS78.alloc | apply IsS78.drewN | apply IsS78.drew | apply IsS78.set_1 | apply IsS78.set_2) | exact HI0.out)); (case side2 => repeat (first | (with_reducible first | exact HB.out | apply bal | apply pdn | apply bd1 | refine bst ?_ (IsS78.ge HI0.out)) | exact HB.out)); rintro e w64 ⟨rfl, hi, hb, hk⟩; refine ⟨_, rfl, ?_⟩; have n0_ := am (Kd.S_mono (Kd.S_keep (IsS78.apartS (show IsS78 w0 _ g s0_0 t276 t277 from by repeat (first | (with_reducible first | exact HI0.out | apply IsS78.alloc | apply IsS78.drewN | apply IsS78.drew | apply IsS78.set_1 | apply IsS78.set_2) | exact HI0.out)) (by (with_reducible repeat (first | apply Kd.S_alloc | apply Kd.S_drewN | apply Kd.S_drew)); exact HO272.out) (by decide)) hk (fun _ h => h.2)) (fun _ h => h.1)); have n1_ := am (KeepBut.trans (by repeat (first | (with_reducible first | exact HK.out | apply KeepBut.set_ | apply keep_drewN | apply keep_drew | apply keep_alloc) | exact HK.out)) hk (.inl rfl)); have n2_ := am (hb); have n3_ := am (hi); clear HO272; clear HK; clear HB; clear HI0; have HO272 := n0_; have HK := n1_; have HB := n2_; have HI0 := n3_; clear n0_ n1_ n2_ n3_; (try clear hb); (try clear hb2); (try clear hk); (try clear hi)))
         have n0_ := am (Kd.S_drew HO272.out)
         have n1_ := am (IsS78.drew HI0.out)
         have n2_ := am (keep_drew HK.out)
         have n3_ := am (bd1 HB.out)
         clear HO272
         clear HI0
         clear HK
         clear HB
         have HO272 := n0_
         have HI0 := n1_
         have HK := n2_
         have HB := n3_
         clear n0_ n1_ n2_ n3_
         have p298 : 0 ≤ (t275 : Int) := of_decide_eq_true (by first | (with_reducible assumption) | assumption)
         have q298 : t275 < (t270.length : Int) := of_decide_eq_true (by first | (with_reducible assumption) | assumption)
         obtain ⟨ad298, A298_2, c298_2, e298, hx298_0, hx298_1, hx298_2, hx298_3, hl298_2, hi298_2⟩ := at_T43 (Kd.S_reads' HO272.out).2.2 t275 p298 q298
         cases e298
         obtain ⟨ce298, hce298, hMe298, hcc298⟩ := Kd.S_get HO272.out z43 t275 p298 (by first | exact q298 | exact of_decide_eq_true (by first | (with_reducible assumption) | assumption) | (have e_ := (Kd.S_reads' HO272.out).1; omega))
         obtain ⟨ve298_2, rfl, ge298_2⟩ := k43_openM hMe298
         have hv298_2 := hcc298 2 _ rfl
         rw [add_field _ _ 2 (by omega)] at hv298_2
         replace hv298_2 := Option.some.inj (hv298_2.symm.trans hx298_2)
         rw [hv298_2] at ge298_2
         have HL298_2 := am (show Kd.R (Kd.int .i64) 2 _ _ _ _ ((rd_T43 t270 t275).f2) from ge298_2)
         clear hv298_2 ge298_2
         have HX298_2 := am hx298_2
         clear hcc298 hce298
         have HR298_2 := am hi298_2
         have HC298_2 := am hl298_2
         clear hi298_2 hl298_2
         replace p298 := eq_true p298
         replace q298 := eq_true q298
         refine start_ (n := 10) (S := fun w' => w'.cell? (ad298.add ((t275).toNat * 4)) = some (.int .i64 ((rd_T43 t270 t275).f0)) ∧ w'.cell? ⟨(ad298.add ((t275).toNat * 4)).block, (ad298.add ((t275).toNat * 4)).off + 1, none⟩ = some (.int .i64 ((rd_T43 t270 t275).f1)) ∧ w'.cell? ⟨(ad298.add ((t275).toNat * 4)).block, (ad298.add ((t275).toNat * 4)).off + 2, none⟩ = some (.slice A298_2 ((rd_T43 t270 t275).f2).length c298_2) ∧ w'.cell? ⟨(ad298.add ((t275).toNat * 4)).block, (ad298.add ((t275).toNat * 4)).off + 3, none⟩ = some (.bool ((rd_T43 t270 t275).f3))) (ds := [9]) #[false, false, false, false, false, false, false, false, false, false] (by kernel_rfl) rfl rfl ⟨hx298_0, hx298_1, hx298_2, hx298_3⟩ (fun hHeld => ?_); refine with_tabW spec_l13Bent.tab13 spec_l13Bent.bits13 (fun HT_ HW_ => ?_)
         generalize w64.drew = w65 at HO272 HI0 HK HB HL298_2 HR298_2 HX298_2 hx298_0 hx298_1 hx298_2 hx298_3 hHeld ⊢
         refine pure_ (i := 0) (N := some 57) (v := ?_) (a' := ?_) #[true, false, false, false, false, false, false, false, false, false] rfl rfl (any_of HT_.out (by kernel_rfl)) (fun _ _ _ h => h) (Or.inl ⟨by rfl, ?_⟩) ?_ ?_
         rotate_left
         ·intro w'
          go_simp
          with_reducible rfl
         rotate_left
         ·simp only [Act.put, sit, scz, scs, i64_w, i32_w]
          rfl
         refine pure_ (i := 1) (N := some 58) (v := ?_) (a' := ?_) #[true, true, false, false, false, false, false, false, false, false] rfl rfl (any_of HT_.out (by kernel_rfl)) (fun _ _ _ h => h) (Or.inl ⟨by rfl, ?_⟩) ?_ ?_
         rotate_left
         ·intro w'
          go_simp
          with_reducible rfl
         rotate_left
         ·simp only [Act.put, sit, scz, scs, i64_w, i32_w]
          rfl
         refine pure_ (i := 2) (N := some 59) (v := ?_) (a' := ?_) #[true, true, true, false, false, false, false, false, false, false] rfl rfl (any_of HT_.out (by kernel_rfl)) (fun _ _ _ h => h) (Or.inl ⟨by rfl, ?_⟩) ?_ ?_
         rotate_left
         ·intro w'
          go_simp
          with_reducible rfl
         rotate_left
         ·simp only [Act.put, sit, scz, scs, i64_w, i32_w]
          rfl
         refine pure_ (i := 3) (N := some 60) (v := ?_) (a' := ?_) #[true, true, true, true, false, false, false, false, false, false] rfl rfl (any_of HT_.out (by kernel_rfl)) (fun _ _ _ h => h) (Or.inl ⟨by rfl, ?_⟩) ?_ ?_
         rotate_left
         ·intro w'
          go_simp
          with_reducible rfl
         rotate_left
         ·simp only [Act.put, sit, scz, scs, i64_w, i32_w]
          rfl
         refine pure_ (i := 5) (N := some 62) (v := ?_) (a' := ?_) #[true, true, true, true, false, true, false, false, false, false] rfl rfl (any_of HT_.out (by kernel_rfl)) (fun _ _ _ h => h) (Or.inl ⟨by rfl, ?_⟩) ?_ ?_
         rotate_left
         ·intro w'
          go_simp
          with_reducible rfl
         rotate_left
         ·simp only [Act.put, sit, scz, scs, i64_w, i32_w]
          rfl
         refine take_ (i := 4) (N := some 61) (v := ?_) (a' := ?_) #[true, true, true, true, true, true, false, false, false, false] rfl rfl (take_ofW HT_.out HW_.out (by kernel_rfl)) (fun _ _ _ h => h) (Or.inl ⟨by rfl, ?_⟩) hHeld ?_ ?_
         rotate_left
         ·rintro w' ⟨s0, s1, s2, s3⟩
          go_simp
          with_reducible rfl
         rotate_left
         ·simp only [Act.put, sit, scz, scs, i64_w, i32_w]
          rfl
         refine one_ (i := 6) (N := some 63) #[true, true, true, true, true, true, true, false, false, false] rfl rfl (one_of HT_.out (by kernel_rfl)) (by decide) (fun K hK => ?_)
         refine Kd.R_lit_step (Kd.int .i64) _ 2 ?hg (N := 63) ?hd (xs := ([16, (-2), 1] : List Int)) (inner := [.int .i64 16, .int .i64 (-2), .int .i64 1]) (ok := fun _ => True) (okp := fun _ => True) ?hr ?hp (fun _ hk => hk) trivial (Below.refl _ _) (Nat.le_refl _) (by simp) ?_; (case hd => rfl); (case hg => rfl); (case hr => first | (go_simp; done) | (go_simp; rfl)); (case hp => exact (Reps.one (show Kd.M (Kd.int .i64) _ _ _ 16 [.int .i64 16] from rfl) (Reps.one (show Kd.M (Kd.int .i64) _ _ _ (-2) [.int .i64 (-2)] from rfl) (Reps.one (show Kd.M (Kd.int .i64) _ _ _ 1 [.int .i64 1] from rfl) (Reps.none _ _)))))
         intro v300 w66 ho67 hb hg_ hnew_
         have HS0_ := (hb.cell (blc _ _ (hHeld.1))).trans (hHeld.1)
         have HS1_ := (hb.cell (blc _ _ (hHeld.2.1))).trans (hHeld.2.1)
         have HS2_ := (hb.cell (blc _ _ (hHeld.2.2.1))).trans (hHeld.2.2.1)
         have HS3_ := (hb.cell (blc _ _ (hHeld.2.2.2))).trans (hHeld.2.2.2)
         clear hg_ hnew_
         (first | rw [← Ny299.out] at ho67 | (simp only [Int.reduceToNat] at ho67; rw [← Ny299.out] at ho67))
         have n0_ := am (Kd.S_elder' (by (with_reducible repeat (first | apply Kd.S_alloc | apply Kd.S_drewN | apply Kd.S_drew)); exact HO272.out) (Kd.R_base ho67) hb)
         have n1_ := am (kre (by (with_reducible repeat (first | apply kra | apply krn | apply krd)); exact HL298_2.out) (Kd.R_base ho67) hb)
         have n2_ := am (Kd.R_lower (Kd.R_new' ho67 (Kd.R_lt (by (with_reducible repeat (first | apply kra | apply krn | apply krd)); exact HL298_2.out))) (keep_size (w := w) (g := g) (row := none) (by repeat (first | (with_reducible first | exact HK.out | apply KeepBut.set_ | apply keep_drewN | apply keep_drew | apply keep_alloc) | exact HK.out))))
         have n3_ := am (IsS78.below (by repeat (first | (with_reducible first | exact HI0.out | apply IsS78.alloc | apply IsS78.drewN | apply IsS78.drew | apply IsS78.set_1 | apply IsS78.set_2) | exact HI0.out)) hb)
         have n4_ := am (Kd.C_below (by repeat (first | (with_reducible exact HR298_2.out) | (with_reducible first | apply kca | apply kcn | apply kcd) | exact HR298_2.out)) hb)
         have n5_ := am (pw_cell_below hb HX298_2.out)
         have n6_ := am (KeepBut.trans (by repeat (first | (with_reducible first | exact HK.out | apply KeepBut.set_ | apply keep_drewN | apply keep_drew | apply keep_alloc) | exact HK.out)) (KeepBut.of_below hb g none) (.inl rfl))
         have n7_ := am (below_step (by repeat (first | (with_reducible first | exact HB.out | apply bal | apply pdn | apply bd1 | refine bst ?_ (IsS78.ge HI0.out)) | exact HB.out)) hb)
         clear HO272
         clear HL298_2
         clear HI0
         clear HR298_2
         clear HX298_2
         clear HK
         clear HB
         have HO272 := n0_
         have HL298_2 := n1_
         have HO301 := n2_
         have HI0 := n3_
         have HR298_2 := n4_
         have HX298_2 := n5_
         have HK := n6_
         have HB := n7_
         clear n0_ n1_ n2_ n3_ n4_ n5_ n6_ n7_
         clear hb ho67
         obtain ⟨Ao68, co68, eo68⟩ := Kd.R_slice HO301.out
         (first | subst eo68 | (injection eo68 with f1_ f2_ f3_; have f4_ := f1_.symm; have f5_ := f3_.symm; clear f1_ f2_ f3_; subst f4_; subst f5_))
         refine hK.out _ _ ⟨HS0_, HS1_, HS2_, HS3_⟩ (fun hHeld => ?_)
         clear hK K
         refine norm_ (a' := ?_) ?_ ?_
         rotate_left
         ·show Act.put _ (some 63) _ = _
          simp only [Act.put, sit, scz, scs, i64_w, i32_w]
          rfl
         refine one_ (i := 7) (N := some 64) #[true, true, true, true, true, true, true, true, false, false] rfl rfl (one_of HT_.out (by kernel_rfl)) (by decide) (fun K hK => ?_)
         refine goes_ Try.func72 (by kernel_rfl) rfl #[.pointer (some ⟨g, 0, none⟩), .slice Ao68 y299.length co68] (by rfl) rfl rfl (by (try simp only [mta, mco, mni]); first | done | rfl | (simp only [lnd, lnt]; rfl)) ?_
         with_reducible refine (spec_l00Src_among.calls g s0_0 t279 t280 _ _ y299 t302 t303 t304 w0 _ ?side1 ?side2 ?side3 ?side4 ?side5 A57.out).mono ?_
         (case side1 => repeat (first | (with_reducible first | exact HI0.out | apply IsS78.alloc | apply IsS78.drewN | apply IsS78.drew | apply IsS78.set_1 | apply IsS78.set_2) | exact HI0.out))
         (case side2 => repeat (first | (with_reducible first | exact HB.out | apply bal | apply pdn | apply bd1 | refine bst ?_ (IsS78.ge HI0.out)) | exact HB.out))
         (case side3 => repeat (first | exact (Kd.R_reads' HO301.out).2.2 | (with_reducible first | apply kca | apply kcn | apply kcd)))
         (case side4 => exact (Kd.R_reads' HO301.out).2.1)
         (case side5 => exact far_slice (IsS78.own_ne HI0.out HO301.out (by decide)))
         rintro e w69 ⟨rfl, hi, hb, hk⟩
         have HS0_ := keep_cell hk (hHeld.1) (by first | (rw [add_block]; exact Kd.own_blk (IsS78.own_neS HI0.out HO272.out (by decide))) | (show (Addr.add _ _).block ≠ _; rw [add_block]; exact Kd.own_blk (IsS78.own_neS HI0.out HO272.out (by decide))) | exact Kd.own_blk (IsS78.own_neS HI0.out HO272.out (by decide)))
         have HS1_ := keep_cell hk (hHeld.2.1) (by first | (rw [add_block]; exact Kd.own_blk (IsS78.own_neS HI0.out HO272.out (by decide))) | (show (Addr.add _ _).block ≠ _; rw [add_block]; exact Kd.own_blk (IsS78.own_neS HI0.out HO272.out (by decide))) | exact Kd.own_blk (IsS78.own_neS HI0.out HO272.out (by decide)))
         have HS2_ := keep_cell hk (hHeld.2.2.1) (by first | (rw [add_block]; exact Kd.own_blk (IsS78.own_neS HI0.out HO272.out (by decide))) | (show (Addr.add _ _).block ≠ _; rw [add_block]; exact Kd.own_blk (IsS78.own_neS HI0.out HO272.out (by decide))) | exact Kd.own_blk (IsS78.own_neS HI0.out HO272.out (by decide)))
         have HS3_ := keep_cell hk (hHeld.2.2.2) (by first | (rw [add_block]; exact Kd.own_blk (IsS78.own_neS HI0.out HO272.out (by decide))) | (show (Addr.add _ _).block ≠ _; rw [add_block]; exact Kd.own_blk (IsS78.own_neS HI0.out HO272.out (by decide))) | exact Kd.own_blk (IsS78.own_neS HI0.out HO272.out (by decide)))
         refine ⟨_, rfl, ?_⟩
         have n0_ := am (Kd.S_mono (Kd.S_keep (IsS78.apartS (show IsS78 w0 _ g s0_0 t279 t280 from by repeat (first | (with_reducible first | exact HI0.out | apply IsS78.alloc | apply IsS78.drewN | apply IsS78.drew | apply IsS78.set_1 | apply IsS78.set_2) | exact HI0.out)) (by (with_reducible repeat (first | apply Kd.S_alloc | apply Kd.S_drewN | apply Kd.S_drew)); exact HO272.out) (by decide)) hk (fun _ h => h.2)) (fun _ h => h.1))
         have n1_ := am (Kd.R_mono (Kd.R_keep (IsS78.apart (show IsS78 w0 _ g s0_0 t279 t280 from by repeat (first | (with_reducible first | exact HI0.out | apply IsS78.alloc | apply IsS78.drewN | apply IsS78.drew | apply IsS78.set_1 | apply IsS78.set_2) | exact HI0.out)) (by (with_reducible repeat (first | apply kra | apply krn | apply krd)); exact HL298_2.out) (by decide)) hk (fun _ h => h.2)) (fun _ h => h.1))
         have n2_ := am (keep_cell hk HX298_2.out (by first | (rw [add_block]; exact Kd.own_blk (IsS78.own_neS HI0.out HO272.out (by decide))) | (show (Addr.add _ _).block ≠ _; rw [add_block]; exact Kd.own_blk (IsS78.own_neS HI0.out HO272.out (by decide))) | exact Kd.own_blk (IsS78.own_neS HI0.out HO272.out (by decide)) | (dsimp only; exact Kd.own_blk (IsS78.own_neS HI0.out HO272.out (by decide)))))
         have n3_ := am (Kd.R_mono (Kd.R_keep (IsS78.apart (show IsS78 w0 _ g s0_0 t279 t280 from by repeat (first | (with_reducible first | exact HI0.out | apply IsS78.alloc | apply IsS78.drewN | apply IsS78.drew | apply IsS78.set_1 | apply IsS78.set_2) | exact HI0.out)) (by (with_reducible repeat (first | apply kra | apply krn | apply krd)); exact HO301.out) (by decide)) hk (fun _ h => h.2)) (fun _ h => h.1))
         have n4_ := am (KeepBut.trans (by repeat (first | (with_reducible first | exact HK.out | apply KeepBut.set_ | apply keep_drewN | apply keep_drew | apply keep_alloc) | exact HK.out)) hk (.inl rfl))
         have n5_ := am (hb)
         have n6_ := am (hi)
         clear HO272
         clear HL298_2
         clear HX298_2
         clear HO301
         clear HK
         clear HB
         clear HI0
         have HO272 := n0_
         have HL298_2 := n1_
         have HX298_2 := n2_
         have HO301 := n3_
         have HK := n4_
         have HB := n5_
         have HI0 := n6_
         clear n0_ n1_ n2_ n3_ n4_ n5_ n6_
         have p59 : 0 ≤ (0 : Int) := (by omega)
         have q59 : (0 : Int) < ((((rd_T43 t270 t275).f2).length : Int) : Int) := of_decide_eq_true (by first | (with_reducible assumption) | assumption)
         have qi59 : (0 < ((rd_T43 t270 t275).f2).length) = True := eq_true (by omega)
         obtain ⟨go59, co59, eo59, gb59, gl59, cl59, HG59⟩ := Kd.R_form HL298_2.out (by omega)
         (first | cases eo59 | (injection eo59 with ea_ en_ ec_; (first | subst ea_ | (injection ea_ with ea_; subst ea_)); subst ec_; clear en_))
         have GB59 := am gb59
         have GG59 := am HG59
         clear gb59 gl59 HG59
         obtain ⟨hx59_0, hf59_0⟩ := Kd.R_celln 0 HL298_2.out (0 : Int) p59 q59
         (try rw [show ((0 : Int)).toNat = 0 from rfl] at hx59_0)
         (try simp only [Nat.reduceMul, Nat.zero_mul, Nat.zero_add, Nat.reduceAdd] at hx59_0)
         (try rw [show ((0 : Int)).toNat = 0 from rfl] at hf59_0)
         (try simp only [Nat.reduceMul, Nat.zero_mul, Nat.zero_add, Nat.reduceAdd] at hf59_0)
         replace p59 := eq_true p59
         replace q59 := eq_true q59
         have n_ := am (Kd.S_mono (ok' := (fun k_ => some k_ ≠ (.slice Ao68 y299.length co68 : Value).ownBlock)) HO272.out (fun k_ hk => hk.2))
         clear HO272
         have HO272 := n_
         clear n_
         have hq70 : (t275 : Int) < (t270.length : Int) := (by have h_ : (t275 : Int) < ((t270.length : Int) : Int) := of_decide_eq_true (by first | (with_reducible assumption) | assumption); first | exact h_ | (have e_ := (Kd.S_reads' HO272.out).1; omega) | simpa only [List.length_set, List.length_set] using h_)
         obtain ⟨oki70, ce70, hcl70, hM70, hcc70, hok70, hbk70⟩ := Kd.S_borrow HO272.out z43 (t275 : Int) (of_decide_eq_true (by first | (with_reducible assumption) | assumption)) hq70
         obtain ⟨ve70_2, rfl, ge70_2⟩ := k43_openM hM70
         have hv70 := hcc70 2 _ rfl
         rw [add_field _ _ 2 (by omega)] at hv70
         replace hv70 := Option.some.inj (hv70.symm.trans HX298_2.out)
         subst hv70
         clear hcc70 hcl70
         replace ge70_2 := (show Kd.R (Kd.int .i64) 2 _ _ _ _ ((rd_T43 t270 t275).f2) from ge70_2)
         have HP70 := Kd.R_putg ge70_2 (0 : Int) t302
         have HN0_go59 := am (show g ≠ go59 from by have h_ := IsS78.own_ne HI0.out HL298_2.out (by decide); intro e_; exact h_ (by rw [e_]; rfl))
         rw [← Ny305.out] at HP70
         have HS70 := hbk70 HP70.2 (fun k_ e_ => by injection e_ with e_; subst e_; exact ge70_2.1 _ rfl) (x' := (⟨(rd_T43 t270 t275).f0, (rd_T43 t270 t275).f1, y305, (rd_T43 t270 t275).f3⟩ : S43)) (k43_mkM _ _ _ (⟨(rd_T43 t270 t275).f0, (rd_T43 t270 t275).f1, y305, (rd_T43 t270 t275).f3⟩ : S43) HP70.1)
         rw [← Ny307.out] at HS70
         have HQ70 := am HS70
         clear HP70 HS70 hbk70 hok70
         refine hK.out _ _ ⟨HS0_, HS1_, HS2_, HS3_⟩ (fun hHeld => ?_)
         clear hK K
         refine norm_ (a' := ?_) ?_ ?_
         rotate_left
         ·show Act.put _ (some 64) _ = _
          simp only [Act.put, sit, scz, scs, i64_w, i32_w]
          rfl
         refine pure_ (i := 8) (N := some 65) (v := ?_) (a' := ?_) #[true, true, true, true, true, true, true, true, true, false] rfl rfl (any_of HT_.out (by kernel_rfl)) (fun _ _ _ h => h) (Or.inl ⟨by rfl, ?_⟩) ?_ ?_
         rotate_left
         ·intro w'
          go_simp
          with_reducible rfl
         rotate_left
         ·simp only [Act.put, sit, scz, scs, i64_w, i32_w]
          rfl
         refine last_ (i := 9) (N := none) #[true, true, true, true, true, true, true, true, true, true] rfl rfl (one_of HT_.out (by kernel_rfl)) (by decide) (fun K hK => ?_)
         refine skip_ (w1 := ?_) (by rfl) rfl ?_ ?_
         rotate_left
         ·go_simp
          rfl
         refine hK.out _ _ ?_
         clear hK K
         refine done_ (done_of HT_.out (by kernel_rfl)) ?_
         try go_wp2
         go_ret
         exact ⟨_, by first | rfl | (simp [errW_none, errW_some] <;> rfl) | (simp [*, errW_none, errW_some] <;> rfl), by (with_reducible repeat (first | apply Kd.S_alloc | apply Kd.S_drewN | apply Kd.S_drew)); exact Kd.S_mono HQ70.out (fun _ hk => trivial), by repeat (first | (with_reducible first | exact HI0.out | apply IsS78.alloc | apply IsS78.drewN | apply IsS78.drew | apply IsS78.set_1 | apply IsS78.set_2 | refine IsS78.far ?_ HN0_go59.out _) | exact HI0.out), by repeat (first | (with_reducible first | exact HB.out | apply bal | apply pdn | apply bd1 | refine bst ?_ (Nat.le_trans HL.out GB59.out) | refine bst ?_ (IsS78.ge HI0.out)) | exact HB.out), by repeat (first | (with_reducible first | exact HK.out | apply KeepBut.set_ | apply keep_drewN | apply keep_drew | apply keep_alloc | refine keep_far ?_ GB59.out _) | exact HK.out)⟩
        ·rw [if_neg c58] at H
         exact absurd H (by simp)
       ·rw [if_neg c56] at H
        exact absurd H (by simp)
      ·rw [if_neg c55] at H
       exact absurd H (by simp)
     ·rw [if_neg c54] at H
      have c54b0 : (t278 == 3) = false := beq_eq_false_iff_ne.mpr c54
      have c54b1 : (t278 != 3) = true := bne_iff_ne.mpr c54
      simp only [Option.some.injEq, Prod.mk.injEq] at H
      obtain ⟨rfl, rfl, rfl⟩ := H
      go_enter Try.func69, Try.ntmps69
      go_wp2_with (first | ((with_reducible refine gate_callee (f := 71) rfl ?_); refine goesL_ (some 7) rfl rfl Try.func71 (by kernel_rfl) rfl #[.pointer (some ⟨g, 0, none⟩), .int .i64 3] rfl (by (try simp only [mta, mco, mni]); first | done | rfl | (simp only [lnd, lnt]; rfl)) ?_; (with_reducible refine (spec_l00Src_pick.calls g s0_0 s0_1 s0_2 3 t267 t268 t269 w0 _ ?side1 ?side2 A2.out).mono ?_); (case side1 => repeat (first | (with_reducible first | exact HI0.out | apply IsS78.alloc | apply IsS78.drewN | apply IsS78.drew | apply IsS78.set_1 | apply IsS78.set_2) | exact HI0.out)); (case side2 => repeat (first | (with_reducible first | exact HB.out | apply bal | apply pdn | apply bd1 | refine bst ?_ (IsS78.ge HI0.out)) | exact HB.out)); rintro e w72 ⟨rfl, hi, hb, hk⟩; refine ⟨_, rfl, ?_⟩; have n0_ := am (KeepBut.trans (by repeat (first | (with_reducible first | exact HK.out | apply KeepBut.set_ | apply keep_drewN | apply keep_drew | apply keep_alloc) | exact HK.out)) hk (.inl rfl)); have n1_ := am (hb); have n2_ := am (hi); clear HK; clear HB; clear HI0; have HK := n0_; have HB := n1_; have HI0 := n2_; clear n0_ n1_ n2_; (try clear hb); (try clear hb2); (try clear hk); (try clear hi)) | ((with_reducible refine gate_callee (f := 91) rfl ?_); refine goesL_ (some 9) rfl rfl Try.func91 (by kernel_rfl) rfl #[.pointer (some ⟨g, 0, none⟩), .int .i64 (wrap64 (2 + t267))] rfl (by (try simp only [mta, mco, mni]); first | done | rfl | (simp only [lnd, lnt]; rfl)) ?_; (with_reducible refine (spec_l13Draw.calls k g s0_0 t268 t269 (wrap64 (2 + t267)) t270 t273 t274 w0 _ ?side1 ?side2 A3.out).mono ?_); (case side1 => repeat (first | (with_reducible first | exact HI0.out | apply IsS78.alloc | apply IsS78.drewN | apply IsS78.drew | apply IsS78.set_1 | apply IsS78.set_2) | exact HI0.out)); (case side2 => repeat (first | (with_reducible first | exact HB.out | apply bal | apply pdn | apply bd1 | refine bst ?_ (IsS78.ge HI0.out)) | exact HB.out)); rintro e w73 ⟨v271, rfl, ho0, hi, hb, hk⟩; refine ⟨_, rfl, ?_⟩; have n0_ := am (Kd.S_lower ho0 (keep_size (w := w) (g := g) (row := none) (by repeat (first | (with_reducible first | exact HK.out | apply KeepBut.set_ | apply keep_drewN | apply keep_drew | apply keep_alloc) | exact HK.out)))); have n1_ := am (KeepBut.trans (by repeat (first | (with_reducible first | exact HK.out | apply KeepBut.set_ | apply keep_drewN | apply keep_drew | apply keep_alloc) | exact HK.out)) hk (.inl rfl)); have n2_ := am (hb); have n3_ := am (hi); clear HK; clear HB; clear HI0; have HO272 := n0_; have HK := n1_; have HB := n2_; have HI0 := n3_; clear n0_ n1_ n2_ n3_; (try clear hb); (try clear hb2); (try clear hk); (try clear hi); (try clear ho0); obtain ⟨Ao74, co74, eo74⟩ := Kd.S_slice HO272.out; subst eo74) | ((with_reducible refine gate_callee (f := 71) rfl ?_); refine goesL_ (some 17) rfl rfl Try.func71 (by kernel_rfl) rfl #[.pointer (some ⟨g, 0, none⟩), .int .i64 (t270.length : Int)] rfl (by (try simp only [mta, mco, mni]); first | done | rfl | (simp only [lnd, lnt]; rfl)) ?_; (with_reducible refine (spec_l00Src_pick.calls g s0_0 t273 t274 (t270.length : Int) t275 t276 t277 w0 _ ?side1 ?side2 A8.out).mono ?_); (case side1 => repeat (first | (with_reducible first | exact HI0.out | apply IsS78.alloc | apply IsS78.drewN | apply IsS78.drew | apply IsS78.set_1 | apply IsS78.set_2) | exact HI0.out)); (case side2 => repeat (first | (with_reducible first | exact HB.out | apply bal | apply pdn | apply bd1 | refine bst ?_ (IsS78.ge HI0.out)) | exact HB.out)); rintro e w75 ⟨rfl, hi, hb, hk⟩; refine ⟨_, rfl, ?_⟩; have n0_ := am (Kd.S_mono (Kd.S_keep (IsS78.apartS (show IsS78 w0 _ g s0_0 t273 t274 from by repeat (first | (with_reducible first | exact HI0.out | apply IsS78.alloc | apply IsS78.drewN | apply IsS78.drew | apply IsS78.set_1 | apply IsS78.set_2) | exact HI0.out)) (by (with_reducible repeat (first | apply Kd.S_alloc | apply Kd.S_drewN | apply Kd.S_drew)); exact HO272.out) (by decide)) hk (fun _ h => h.2)) (fun _ h => h.1)); have n1_ := am (KeepBut.trans (by repeat (first | (with_reducible first | exact HK.out | apply KeepBut.set_ | apply keep_drewN | apply keep_drew | apply keep_alloc) | exact HK.out)) hk (.inl rfl)); have n2_ := am (hb); have n3_ := am (hi); clear HO272; clear HK; clear HB; clear HI0; have HO272 := n0_; have HK := n1_; have HB := n2_; have HI0 := n3_; clear n0_ n1_ n2_ n3_; (try clear hb); (try clear hb2); (try clear hk); (try clear hi)) | ((with_reducible refine gate_callee (f := 71) rfl ?_); refine goesL_ (some 19) rfl rfl Try.func71 (by kernel_rfl) rfl #[.pointer (some ⟨g, 0, none⟩), .int .i64 14] rfl (by (try simp only [mta, mco, mni]); first | done | rfl | (simp only [lnd, lnt]; rfl)) ?_; (with_reducible refine (spec_l00Src_pick.calls g s0_0 t276 t277 14 t278 t279 t280 w0 _ ?side1 ?side2 A9.out).mono ?_); (case side1 => repeat (first | (with_reducible first | exact HI0.out | apply IsS78.alloc | apply IsS78.drewN | apply IsS78.drew | apply IsS78.set_1 | apply IsS78.set_2) | exact HI0.out)); (case side2 => repeat (first | (with_reducible first | exact HB.out | apply bal | apply pdn | apply bd1 | refine bst ?_ (IsS78.ge HI0.out)) | exact HB.out)); rintro e w76 ⟨rfl, hi, hb, hk⟩; refine ⟨_, rfl, ?_⟩; have n0_ := am (Kd.S_mono (Kd.S_keep (IsS78.apartS (show IsS78 w0 _ g s0_0 t276 t277 from by repeat (first | (with_reducible first | exact HI0.out | apply IsS78.alloc | apply IsS78.drewN | apply IsS78.drew | apply IsS78.set_1 | apply IsS78.set_2) | exact HI0.out)) (by (with_reducible repeat (first | apply Kd.S_alloc | apply Kd.S_drewN | apply Kd.S_drew)); exact HO272.out) (by decide)) hk (fun _ h => h.2)) (fun _ h => h.1)); have n1_ := am (KeepBut.trans (by repeat (first | (with_reducible first | exact HK.out | apply KeepBut.set_ | apply keep_drewN | apply keep_drew | apply keep_alloc) | exact HK.out)) hk (.inl rfl)); have n2_ := am (hb); have n3_ := am (hi); clear HO272; clear HK; clear HB; clear HI0; have HO272 := n0_; have HK := n1_; have HB := n2_; have HI0 := n3_; clear n0_ n1_ n2_ n3_; (try clear hb); (try clear hb2); (try clear hk); (try clear hi)))
      go_ret
      exact ⟨_, by first | rfl | (simp [errW_none, errW_some] <;> rfl) | (simp [*, errW_none, errW_some] <;> rfl), by (with_reducible repeat (first | apply Kd.S_alloc | apply Kd.S_drewN | apply Kd.S_drew)); exact HO272.out, by repeat (first | (with_reducible first | exact HI0.out | apply IsS78.alloc | apply IsS78.drewN | apply IsS78.drew | apply IsS78.set_1 | apply IsS78.set_2) | exact HI0.out), by repeat (first | (with_reducible first | exact HB.out | apply bal | apply pdn | apply bd1 | refine bst ?_ (IsS78.ge HI0.out)) | exact HB.out), by repeat (first | (with_reducible first | exact HK.out | apply KeepBut.set_ | apply keep_drewN | apply keep_drew | apply keep_alloc) | exact HK.out)⟩

/-! ### spec_l13Some: function 73 -/
def spec_l13Some.l0 : Nat → List Int → Int → List Int → Int → Int → Option (List Int × Int × Int)
 | 0, _, _, _, _, _ => none
 | k + 1, x3, x4, x1000, x1001, x1002 => if x4 < 6 then ((spec_l00Src_one.f x1000 x1001 x1002 3).bind fun bt311 => (if bt311.1 = true then (spec_l13Some.l0 k x3 (wrap64 (x4 + 1)) x1000 bt311.2.1 bt311.2.2) else (if x3.length < 17592186044416 then (spec_l13Some.l0 k (x3 ++ [x4]) (wrap64 (x4 + 1)) x1000 bt311.2.1 bt311.2.2) else (none)))) else ((spec_l00Src_one.f x1000 x1001 x1002 20).bind fun bt317 => (if bt317.1 = true then ((spec_l00Src_among.f x1000 bt317.2.1 bt317.2.2 (([0, 15, 16] : List Int))).bind fun bt323 => (if x3.length < 17592186044416 then (some ((x3 ++ [bt323.1]), bt323.2.1, bt323.2.2)) else (none))) else (some (x3, bt317.2.1, bt317.2.2))))
def spec_l13Some.f (k : Nat) (s0_0 : List Int) (s0_1 : Int) (s0_2 : Int) : Option (List Int × Int × Int) := spec_l13Some.l0 k (([] : List Int)) 0 s0_0 s0_1 s0_2
theorem spec_l13Some.mono_l : ∀ k, (∀ y0 y1 y2 y3 y4, LeO (spec_l13Some.l0 k y0 y1 y2 y3 y4) (spec_l13Some.l0 (k + 1) y0 y1 y2 y3 y4))
 | 0 => fun _ _ _ _ _ r h => by simp [spec_l13Some.l0] at h
 | k + 1 => by
  have ih0 := spec_l13Some.mono_l k
  ·intro y0 y1 y2 y3 y4
   unfold spec_l13Some.l0
   repeat' first
   | (with_reducible exact ih0 _ _ _ _ _)
   | (with_reducible exact LeO.refl _)
   | (with_reducible exact LeO.none _)
   | (with_reducible refine LeO.ite ?_ ?_)
   | (with_reducible refine LeO.bind ?_ (fun _ => ?_))
   | exact ih0 _ _ _ _ _
   | exact LeO.none _
   | refine LeO.ite ?_ ?_
   | refine LeO.bind ?_ (fun _ => ?_)
theorem spec_l13Some.mono : ∀ a0 a1 a2 k, LeO (spec_l13Some.f k a0 a1 a2) (spec_l13Some.f (k + 1) a0 a1 a2) := by
 intro a0 a1 a2 k
 have ih0 := spec_l13Some.mono_l k
 unfold spec_l13Some.f
 repeat' first
   | (with_reducible exact ih0 _ _ _ _ _)
   | (with_reducible exact LeO.refl _)
   | (with_reducible exact LeO.none _)
   | (with_reducible refine LeO.ite ?_ ?_)
   | (with_reducible refine LeO.bind ?_ (fun _ => ?_))
   | exact ih0 _ _ _ _ _
   | exact LeO.none _
   | refine LeO.ite ?_ ?_
   | refine LeO.bind ?_ (fun _ => ?_)
set_option maxHeartbeats 8000000 in
set_option maxRecDepth 100000 in
theorem spec_l13Some.calls (k : Nat) (g : Nat) (s0_0 : List Int) (s0_1 : Int) (s0_2 : Int) (r1 : List Int) (r2 : Int) (r3 : Int) (w0 w : World) (hI : IsS78 w0 w g s0_0 s0_1 s0_2) (hB : Below w0.heap.size w0 w) (h : spec_l13Some.f k s0_0 s0_1 s0_2 = some (r1, r2, r3)) :
  Calls Try.prog 73 #[.pointer (some ⟨g, 0, none⟩)] w fun e w' => ∃ v0_ : Value, e = .returned (v0_) ∧ Kd.R (Kd.int .i64) 2 w' w.heap.size (fun _ => True) v0_ r1 ∧ IsS78 w0 w' g s0_0 r2 r3 ∧ Below w0.heap.size w0 w' ∧ KeepBut w w' g none := by
 have HI0 := am hI
 have HK := am (KeepBut.refl w g none)
 have HL := am hB.size
 clear hI
 have HW0 := am hB.size
 have HB := am hB
 clear hB
 have H : (spec_l13Some.l0 k (([] : List Int)) 0 s0_0 s0_1 s0_2) = some (r1, r2, r3) := h
 clear h
 obtain ⟨y308, hy308⟩ : ∃ y_ : List Int, y_ = (([] : List Int)) := ⟨_, rfl⟩
 replace H : (spec_l13Some.l0 k y308 0 s0_0 s0_1 s0_2) = some (r1, r2, r3) := by first | (rw [hy308]; with_reducible exact H) | (have H2_ := (Option.bind_some _ _).symm.trans H; rw [hy308]; with_reducible exact H2_) | (have H2_ := (Option.bind_some _ _).symm.trans H; with_reducible exact H2_) | with_reducible exact H | (rw [hy308]; exact H) | exact H
 have Ny308 := am hy308
 clear hy308
 have H' := am H
 clear H
 go_enter Try.func73, Try.ntmps73
 go_wp2_with (first | ((with_reducible refine gate_dst (N := 5) rfl ?_); refine Kd.R_lit (Kd.int .i64) _ 2 ?hg (N := 5) ?hd (xs := ([] : List Int)) (inner := []) (ok := fun _ => True) (okp := fun _ => True) ?hr ?hp (fun _ hk => hk) trivial (Below.refl _ _) (Nat.le_refl _) (by simp) ?_; (case hd => rfl); (case hg => rfl); (case hr => first | (go_simp; done) | (go_simp; rfl)); (case hp => exact (Reps.none _ _)); intro v309 w2 ho3 hb hg_ hnew_; clear hg_ hnew_; (first | rw [← Ny308.out] at ho3 | (simp only [Int.reduceToNat] at ho3; rw [← Ny308.out] at ho3)); have n0_ := am (Kd.R_lower ho3 (keep_size (w := w) (g := g) (row := none) (by repeat (first | (with_reducible first | exact HK.out | apply KeepBut.set_ | apply keep_drewN | apply keep_drew | apply keep_alloc) | exact HK.out)))); have n1_ := am (IsS78.below (by repeat (first | (with_reducible first | exact HI0.out | apply IsS78.alloc | apply IsS78.drewN | apply IsS78.drew | apply IsS78.set_1 | apply IsS78.set_2) | exact HI0.out)) hb); have n2_ := am (KeepBut.trans (by repeat (first | (with_reducible first | exact HK.out | apply KeepBut.set_ | apply keep_drewN | apply keep_drew | apply keep_alloc) | exact HK.out)) (KeepBut.of_below hb g none) (.inl rfl)); have n3_ := am (below_step (by repeat (first | (with_reducible first | exact HB.out | apply bal | apply pdn | apply bd1 | refine bst ?_ (IsS78.ge HI0.out)) | exact HB.out)) hb); clear HI0; clear HK; clear HB; have HO310 := n0_; have HI0 := n1_; have HK := n2_; have HB := n3_; clear n0_ n1_ n2_ n3_; clear hb ho3))
 go_loopg [3, 4] k (fun kq v3 v4 w' => ∃ (x3_1 : List Int) (x4_1 : Int) (x1001_1 : Int) (x1002_1 : Int), v4 = .int .i64 x4_1 ∧ Aside0 (spec_l13Some.l0 kq x3_1 x4_1 s0_0 x1001_1 x1002_1 = some (r1, r2, r3)) ∧ Aside0 (kq ≤ k) ∧ Aside0 (Kd.R (Kd.int .i64) 2 w' w.heap.size (fun _ => True) v3 x3_1) ∧ Aside0 (IsS78 w0 w' g s0_0 x1001_1 x1002_1) ∧ Aside0 (KeepBut w w' g none) ∧ Aside0 (Below w0.heap.size w0 w'))
 case atStart => exact ⟨(y308), (0), (s0_1), (s0_2), (by first | rfl | (simp; done) | (simp [*]; done)), H', ⟨Nat.le_refl _⟩, ⟨by (with_reducible repeat (first | apply kra | apply krn | apply krd)); exact HO310.out⟩, ⟨by repeat (first | (with_reducible first | exact HI0.out | apply IsS78.alloc | apply IsS78.drewN | apply IsS78.drew | apply IsS78.set_1 | apply IsS78.set_2) | exact HI0.out)⟩, ⟨by repeat (first | (with_reducible first | exact HK.out | apply KeepBut.set_ | apply keep_drewN | apply keep_drew | apply keep_alloc) | exact HK.out)⟩, ⟨by repeat (first | (with_reducible first | exact HB.out | apply bal | apply pdn | apply bd1 | refine bst ?_ (IsS78.ge HI0.out)) | exact HB.out)⟩⟩
 case round =>
  clear H'
  obtain ⟨x3_1, x4_1, x1001_1, x1002_1, rfl, HA, HK1, HO_3, HI0, HK, HB⟩ := hrel
  cases gk with
  | zero => exact absurd HA.out (by simp [spec_l13Some.l0])
  | succ k1 =>
   have H := HA.out
   clear HA
   simp only [spec_l13Some.l0] at H
   by_cases c4 : x4_1 < 6
   ·rw [if_pos c4] at H
    have c4b0 : decide (x4_1 < 6) = true := decide_eq_true c4
    clear c4
    replace H := Option.bind_eq_some_iff.mp H
    obtain ⟨⟨t311, t312, t313⟩, A50, H⟩ := H
    replace H : (if t311 = true then (spec_l13Some.l0 k1 x3_1 (wrap64 (x4_1 + 1)) s0_0 t312 t313) else (if x3_1.length < 17592186044416 then (spec_l13Some.l0 k1 (x3_1 ++ [x4_1]) (wrap64 (x4_1 + 1)) s0_0 t312 t313) else (none))) = some (r1, r2, r3) := H
    have A5 := am A50
    clear A50
    by_cases c6 : t311 = true
    ·subst c6
     have H1 : (spec_l13Some.l0 k1 x3_1 (wrap64 (x4_1 + 1)) s0_0 t312 t313) = some (r1, r2, r3) := by rw [if_pos rfl] at H; exact H
     clear H
     have H := H1
     clear H1
     have H' := am H
     clear H
     go_wp2_with (first | ((with_reducible refine gate_callee (f := 70) rfl ?_); refine goesL_ (some 11) rfl rfl Try.func70 (by kernel_rfl) rfl #[.pointer (some ⟨g, 0, none⟩), .int .i64 3] rfl (by (try simp only [mta, mco, mni]); first | done | rfl | (simp only [lnd, lnt]; rfl)) ?_; (with_reducible refine (spec_l00Src_one.calls g s0_0 x1001_1 x1002_1 3 true t312 t313 w0 _ ?side1 ?side2 A5.out).mono ?_); (case side1 => repeat (first | (with_reducible first | exact HI0.out | apply IsS78.alloc | apply IsS78.drewN | apply IsS78.drew | apply IsS78.set_1 | apply IsS78.set_2) | exact HI0.out)); (case side2 => repeat (first | (with_reducible first | exact HB.out | apply bal | apply pdn | apply bd1 | refine bst ?_ (IsS78.ge HI0.out)) | exact HB.out)); rintro e w7 ⟨rfl, hi, hb, hk⟩; refine ⟨_, rfl, ?_⟩; have n0_ := am (Kd.R_mono (Kd.R_keep (IsS78.apart (show IsS78 w0 _ g s0_0 x1001_1 x1002_1 from by repeat (first | (with_reducible first | exact HI0.out | apply IsS78.alloc | apply IsS78.drewN | apply IsS78.drew | apply IsS78.set_1 | apply IsS78.set_2) | exact HI0.out)) (by (with_reducible repeat (first | apply kra | apply krn | apply krd)); exact HO_3.out) (by decide)) hk (fun _ h => h.2)) (fun _ h => h.1)); have n1_ := am (KeepBut.trans (by repeat (first | (with_reducible first | exact HK.out | apply KeepBut.set_ | apply keep_drewN | apply keep_drew | apply keep_alloc) | exact HK.out)) hk (.inl rfl)); have n2_ := am (hb); have n3_ := am (hi); clear HO_3; clear HK; clear HB; clear HI0; have HO_3 := n0_; have HK := n1_; have HB := n2_; have HI0 := n3_; clear n0_ n1_ n2_ n3_; (try clear hb); (try clear hb2); (try clear hk); (try clear hi)))
     go_roundg k1
     case measure => have := HK1.out; omega
     case rel => exact ⟨(x3_1), (wrap64 (x4_1 + 1)), (t312), (t313), (by first | rfl | (simp; done) | (simp [*]; done)), H', ⟨by have := HK1.out; omega⟩, ⟨by (with_reducible repeat (first | apply kra | apply krn | apply krd)); exact HO_3.out⟩, ⟨by repeat (first | (with_reducible first | exact HI0.out | apply IsS78.alloc | apply IsS78.drewN | apply IsS78.drew | apply IsS78.set_1 | apply IsS78.set_2) | exact HI0.out)⟩, ⟨by repeat (first | (with_reducible first | exact HK.out | apply KeepBut.set_ | apply keep_drewN | apply keep_drew | apply keep_alloc) | exact HK.out)⟩, ⟨by repeat (first | (with_reducible first | exact HB.out | apply bal | apply pdn | apply bd1 | refine bst ?_ (IsS78.ge HI0.out)) | exact HB.out)⟩⟩
    ·replace c6 := Bool.eq_false_iff.mpr c6
     subst c6
     have H1 : (if x3_1.length < 17592186044416 then (spec_l13Some.l0 k1 (x3_1 ++ [x4_1]) (wrap64 (x4_1 + 1)) s0_0 t312 t313) else (none)) = some (r1, r2, r3) := by rw [if_neg (show ¬ (false = true) by decide)] at H; exact H
     clear H
     have H := H1
     clear H1
     by_cases c8 : x3_1.length < 17592186044416
     ·rw [if_pos c8] at H
      have LMc8 := am c8
      clear c8
      obtain ⟨y314, hy314⟩ : ∃ y_ : List Int, y_ = (x3_1 ++ [x4_1]) := ⟨_, rfl⟩
      replace H : (spec_l13Some.l0 k1 y314 (wrap64 (x4_1 + 1)) s0_0 t312 t313) = some (r1, r2, r3) := by first | (rw [hy314]; with_reducible exact H) | (have H2_ := (Option.bind_some _ _).symm.trans H; rw [hy314]; with_reducible exact H2_) | (have H2_ := (Option.bind_some _ _).symm.trans H; with_reducible exact H2_) | with_reducible exact H | (rw [hy314]; exact H) | exact H
      have Ny314 := am hy314
      clear hy314
      have H' := am H
      clear H
      go_wp2_with (first | ((with_reducible refine gate_callee (f := 70) rfl ?_); refine goesL_ (some 11) rfl rfl Try.func70 (by kernel_rfl) rfl #[.pointer (some ⟨g, 0, none⟩), .int .i64 3] rfl (by (try simp only [mta, mco, mni]); first | done | rfl | (simp only [lnd, lnt]; rfl)) ?_; (with_reducible refine (spec_l00Src_one.calls g s0_0 x1001_1 x1002_1 3 false t312 t313 w0 _ ?side1 ?side2 A5.out).mono ?_); (case side1 => repeat (first | (with_reducible first | exact HI0.out | apply IsS78.alloc | apply IsS78.drewN | apply IsS78.drew | apply IsS78.set_1 | apply IsS78.set_2) | exact HI0.out)); (case side2 => repeat (first | (with_reducible first | exact HB.out | apply bal | apply pdn | apply bd1 | refine bst ?_ (IsS78.ge HI0.out)) | exact HB.out)); rintro e w9 ⟨rfl, hi, hb, hk⟩; refine ⟨_, rfl, ?_⟩; have n0_ := am (Kd.R_mono (Kd.R_keep (IsS78.apart (show IsS78 w0 _ g s0_0 x1001_1 x1002_1 from by repeat (first | (with_reducible first | exact HI0.out | apply IsS78.alloc | apply IsS78.drewN | apply IsS78.drew | apply IsS78.set_1 | apply IsS78.set_2) | exact HI0.out)) (by (with_reducible repeat (first | apply kra | apply krn | apply krd)); exact HO_3.out) (by decide)) hk (fun _ h => h.2)) (fun _ h => h.1)); have n1_ := am (KeepBut.trans (by repeat (first | (with_reducible first | exact HK.out | apply KeepBut.set_ | apply keep_drewN | apply keep_drew | apply keep_alloc) | exact HK.out)) hk (.inl rfl)); have n2_ := am (hb); have n3_ := am (hi); clear HO_3; clear HK; clear HB; clear HI0; have HO_3 := n0_; have HK := n1_; have HB := n2_; have HI0 := n3_; clear n0_ n1_ n2_ n3_; (try clear hb); (try clear hb2); (try clear hk); (try clear hi)) | ((with_reducible refine gate_builtin (b := .append) (xs := #[.tmp 13, .tmp 15]) rfl ?_); at_builtin; refine Kd.R_append (Kd.int .i64) w.heap.size rfl (.tmp 13) (.tmp 15) 22 2 (.int .i64 0) 8 rfl Try.underlying22 info2 rfl (by decide) (by omega) u3 x3_1 x4_1 [.int .i64 x4_1] (fun _ => True) (fun _ => False) rfl rfl ?aP (fun _ hk => hk.elim) ?aF ?aO (Below.refl _ _) ?aS ?aL ?_; (case aP => exact rfl); (case aF => exact (fun _ _ => trivial)); (case aO => exact (by (with_reducible repeat (first | apply kra | apply krn | apply krd)); exact HO_3.out)); (case aS => exact (keep_size (w := w) (g := g) (row := none) (by repeat (first | (with_reducible first | exact HK.out | apply KeepBut.set_ | apply keep_drewN | apply keep_drew | apply keep_alloc) | exact HK.out)))); (case aL => have := LMc8.out; omega); intro v315 w10 ho hb hg hat; rw [← Ny314.out] at ho; have n0_ := am (IsS78.grown (by repeat (first | (with_reducible first | exact HI0.out | apply IsS78.alloc | apply IsS78.drewN | apply IsS78.drew | apply IsS78.set_1 | apply IsS78.set_2) | exact HI0.out)) hg (IsS78.own_ne HI0.out HO_3.out (by decide))); have n1_ := am (below_weaken (by repeat (first | (with_reducible first | exact HB.out | apply bal | apply pdn | apply bd1 | refine bst ?_ (IsS78.ge HI0.out)) | exact HB.out)) HL.out hb); have n2_ := am (KeepBut.trans (by repeat (first | (with_reducible first | exact HK.out | apply KeepBut.set_ | apply keep_drewN | apply keep_drew | apply keep_alloc) | exact HK.out)) (KeepBut.of_grown hg g) (Kd.R_base2 HO_3.out)); have n3_ := am (ho); clear HI0; clear HB; clear HK; clear HO_3; have HI0 := n0_; have HB := n1_; have HK := n2_; have HO316 := n3_; clear n0_ n1_ n2_ n3_; clear ho hb hg hat))
      go_roundg k1
      case measure => have := HK1.out; omega
      case rel => exact ⟨(y314), (wrap64 (x4_1 + 1)), (t312), (t313), (by first | rfl | (simp; done) | (simp [*]; done)), H', ⟨by have := HK1.out; omega⟩, ⟨by (with_reducible repeat (first | apply kra | apply krn | apply krd)); exact HO316.out⟩, ⟨by repeat (first | (with_reducible first | exact HI0.out | apply IsS78.alloc | apply IsS78.drewN | apply IsS78.drew | apply IsS78.set_1 | apply IsS78.set_2) | exact HI0.out)⟩, ⟨by repeat (first | (with_reducible first | exact HK.out | apply KeepBut.set_ | apply keep_drewN | apply keep_drew | apply keep_alloc) | exact HK.out)⟩, ⟨by repeat (first | (with_reducible first | exact HB.out | apply bal | apply pdn | apply bd1 | refine bst ?_ (IsS78.ge HI0.out)) | exact HB.out)⟩⟩
     ·rw [if_neg c8] at H
      exact absurd H (by simp)
   ·rw [if_neg c4] at H
    have c4b0 : decide (x4_1 < 6) = false := decide_eq_false c4
    clear c4
    replace H := Option.bind_eq_some_iff.mp H
    obtain ⟨⟨t317, t318, t319⟩, A110, H⟩ := H
    replace H : (if t317 = true then ((spec_l00Src_among.f s0_0 t318 t319 (([0, 15, 16] : List Int))).bind fun bt323 => (if x3_1.length < 17592186044416 then (some ((x3_1 ++ [bt323.1]), bt323.2.1, bt323.2.2)) else (none))) else (some (x3_1, t318, t319))) = some (r1, r2, r3) := H
    have A11 := am A110
    clear A110
    by_cases c12 : t317 = true
    ·subst c12
     have H1 : ((spec_l00Src_among.f s0_0 t318 t319 (([0, 15, 16] : List Int))).bind fun bt323 => (if x3_1.length < 17592186044416 then (some ((x3_1 ++ [bt323.1]), bt323.2.1, bt323.2.2)) else (none))) = some (r1, r2, r3) := by rw [if_pos rfl] at H; exact H
     clear H
     have H := H1
     clear H1
     obtain ⟨y320, hy320⟩ : ∃ y_ : List Int, y_ = (([0, 15, 16] : List Int)) := ⟨_, rfl⟩
     replace H : ((spec_l00Src_among.f s0_0 t318 t319 y320).bind fun bt323 => (if x3_1.length < 17592186044416 then (some ((x3_1 ++ [bt323.1]), bt323.2.1, bt323.2.2)) else (none))) = some (r1, r2, r3) := by first | (rw [hy320]; with_reducible exact H) | (have H2_ := (Option.bind_some _ _).symm.trans H; rw [hy320]; with_reducible exact H2_) | (have H2_ := (Option.bind_some _ _).symm.trans H; with_reducible exact H2_) | with_reducible exact H | (rw [hy320]; exact H) | exact H
     have Ny320 := am hy320
     clear hy320
     replace H := Option.bind_eq_some_iff.mp H
     obtain ⟨⟨t323, t324, t325⟩, A130, H⟩ := H
     replace H : (if x3_1.length < 17592186044416 then (some ((x3_1 ++ [t323]), t324, t325)) else (none)) = some (r1, r2, r3) := H
     have A13 := am A130
     clear A130
     by_cases c14 : x3_1.length < 17592186044416
     ·rw [if_pos c14] at H
      have LMc14 := am c14
      clear c14
      obtain ⟨y326, hy326⟩ : ∃ y_ : List Int, y_ = (x3_1 ++ [t323]) := ⟨_, rfl⟩
      replace H : (some (y326, t324, t325)) = some (r1, r2, r3) := by first | (rw [hy326]; with_reducible exact H) | (have H2_ := (Option.bind_some _ _).symm.trans H; rw [hy326]; with_reducible exact H2_) | (have H2_ := (Option.bind_some _ _).symm.trans H; with_reducible exact H2_) | with_reducible exact H | (rw [hy326]; exact H) | exact H
      have Ny326 := am hy326
      clear hy326
      simp only [Option.some.injEq, Prod.mk.injEq] at H
      obtain ⟨rfl, rfl, rfl⟩ := H
      go_wp2_with (first | ((with_reducible refine gate_callee (f := 70) rfl ?_); refine goesL_ (some 18) rfl rfl Try.func70 (by kernel_rfl) rfl #[.pointer (some ⟨g, 0, none⟩), .int .i64 20] rfl (by (try simp only [mta, mco, mni]); first | done | rfl | (simp only [lnd, lnt]; rfl)) ?_; (with_reducible refine (spec_l00Src_one.calls g s0_0 x1001_1 x1002_1 20 true t318 t319 w0 _ ?side1 ?side2 A11.out).mono ?_); (case side1 => repeat (first | (with_reducible first | exact HI0.out | apply IsS78.alloc | apply IsS78.drewN | apply IsS78.drew | apply IsS78.set_1 | apply IsS78.set_2) | exact HI0.out)); (case side2 => repeat (first | (with_reducible first | exact HB.out | apply bal | apply pdn | apply bd1 | refine bst ?_ (IsS78.ge HI0.out)) | exact HB.out)); rintro e w15 ⟨rfl, hi, hb, hk⟩; refine ⟨_, rfl, ?_⟩; have n0_ := am (Kd.R_mono (Kd.R_keep (IsS78.apart (show IsS78 w0 _ g s0_0 x1001_1 x1002_1 from by repeat (first | (with_reducible first | exact HI0.out | apply IsS78.alloc | apply IsS78.drewN | apply IsS78.drew | apply IsS78.set_1 | apply IsS78.set_2) | exact HI0.out)) (by (with_reducible repeat (first | apply kra | apply krn | apply krd)); exact HO_3.out) (by decide)) hk (fun _ h => h.2)) (fun _ h => h.1)); have n1_ := am (KeepBut.trans (by repeat (first | (with_reducible first | exact HK.out | apply KeepBut.set_ | apply keep_drewN | apply keep_drew | apply keep_alloc) | exact HK.out)) hk (.inl rfl)); have n2_ := am (hb); have n3_ := am (hi); clear HO_3; clear HK; clear HB; clear HI0; have HO_3 := n0_; have HK := n1_; have HB := n2_; have HI0 := n3_; clear n0_ n1_ n2_ n3_; (try clear hb); (try clear hb2); (try clear hk); (try clear hi)) | ((with_reducible refine gate_dst (N := 21) rfl ?_); refine Kd.R_lit (Kd.int .i64) _ 2 ?hg (N := 21) ?hd (xs := ([0, 15, 16] : List Int)) (inner := [.int .i64 0, .int .i64 15, .int .i64 16]) (ok := fun _ => True) (okp := fun _ => True) ?hr ?hp (fun _ hk => hk) trivial (Below.refl _ _) (Nat.le_refl _) (by simp) ?_; (case hd => rfl); (case hg => rfl); (case hr => first | (go_simp; done) | (go_simp; rfl)); (case hp => exact (Reps.one (show Kd.M (Kd.int .i64) _ _ _ 0 [.int .i64 0] from rfl) (Reps.one (show Kd.M (Kd.int .i64) _ _ _ 15 [.int .i64 15] from rfl) (Reps.one (show Kd.M (Kd.int .i64) _ _ _ 16 [.int .i64 16] from rfl) (Reps.none _ _))))); intro v321 w16 ho17 hb hg_ hnew_; clear hg_ hnew_; (first | rw [← Ny320.out] at ho17 | (simp only [Int.reduceToNat] at ho17; rw [← Ny320.out] at ho17)); have n0_ := am (kre (by (with_reducible repeat (first | apply kra | apply krn | apply krd)); exact HO_3.out) (Kd.R_base ho17) hb); have n1_ := am (Kd.R_lower (Kd.R_new' ho17 (Kd.R_lt (by (with_reducible repeat (first | apply kra | apply krn | apply krd)); exact HO_3.out))) (keep_size (w := w) (g := g) (row := none) (by repeat (first | (with_reducible first | exact HK.out | apply KeepBut.set_ | apply keep_drewN | apply keep_drew | apply keep_alloc) | exact HK.out)))); have n2_ := am (IsS78.below (by repeat (first | (with_reducible first | exact HI0.out | apply IsS78.alloc | apply IsS78.drewN | apply IsS78.drew | apply IsS78.set_1 | apply IsS78.set_2) | exact HI0.out)) hb); have n3_ := am (KeepBut.trans (by repeat (first | (with_reducible first | exact HK.out | apply KeepBut.set_ | apply keep_drewN | apply keep_drew | apply keep_alloc) | exact HK.out)) (KeepBut.of_below hb g none) (.inl rfl)); have n4_ := am (below_step (by repeat (first | (with_reducible first | exact HB.out | apply bal | apply pdn | apply bd1 | refine bst ?_ (IsS78.ge HI0.out)) | exact HB.out)) hb); clear HO_3; clear HI0; clear HK; clear HB; have HO_3 := n0_; have HO322 := n1_; have HI0 := n2_; have HK := n3_; have HB := n4_; clear n0_ n1_ n2_ n3_ n4_; clear hb ho17; obtain ⟨Ao18, co18, eo18⟩ := Kd.R_slice HO322.out; subst eo18) | ((with_reducible refine gate_callee (f := 72) rfl ?_); refine goesL_ (some 22) rfl rfl Try.func72 (by kernel_rfl) rfl #[.pointer (some ⟨g, 0, none⟩), .slice Ao18 y320.length co18] rfl (by (try simp only [mta, mco, mni]); first | done | rfl | (simp only [lnd, lnt]; rfl)) ?_; (with_reducible refine (spec_l00Src_among.calls g s0_0 t318 t319 _ _ y320 t323 t324 t325 w0 _ ?side1 ?side2 ?side3 ?side4 ?side5 A13.out).mono ?_); (case side1 => repeat (first | (with_reducible first | exact HI0.out | apply IsS78.alloc | apply IsS78.drewN | apply IsS78.drew | apply IsS78.set_1 | apply IsS78.set_2) | exact HI0.out)); (case side2 => repeat (first | (with_reducible first | exact HB.out | apply bal | apply pdn | apply bd1 | refine bst ?_ (IsS78.ge HI0.out)) | exact HB.out)); (case side3 => repeat (first | exact (Kd.R_reads' HO322.out).2.2 | (with_reducible first | apply kca | apply kcn | apply kcd))); (case side4 => exact (Kd.R_reads' HO322.out).2.1); (case side5 => exact far_slice (IsS78.own_ne HI0.out HO322.out (by decide))); rintro e w19 ⟨rfl, hi, hb, hk⟩; refine ⟨_, rfl, ?_⟩; have n0_ := am (Kd.R_mono (Kd.R_keep (IsS78.apart (show IsS78 w0 _ g s0_0 t318 t319 from by repeat (first | (with_reducible first | exact HI0.out | apply IsS78.alloc | apply IsS78.drewN | apply IsS78.drew | apply IsS78.set_1 | apply IsS78.set_2) | exact HI0.out)) (by (with_reducible repeat (first | apply kra | apply krn | apply krd)); exact HO_3.out) (by decide)) hk (fun _ h => h.2)) (fun _ h => h.1)); have n1_ := am (Kd.R_mono (Kd.R_keep (IsS78.apart (show IsS78 w0 _ g s0_0 t318 t319 from by repeat (first | (with_reducible first | exact HI0.out | apply IsS78.alloc | apply IsS78.drewN | apply IsS78.drew | apply IsS78.set_1 | apply IsS78.set_2) | exact HI0.out)) (by (with_reducible repeat (first | apply kra | apply krn | apply krd)); exact HO322.out) (by decide)) hk (fun _ h => h.2)) (fun _ h => h.1)); have n2_ := am (KeepBut.trans (by repeat (first | (with_reducible first | exact HK.out | apply KeepBut.set_ | apply keep_drewN | apply keep_drew | apply keep_alloc) | exact HK.out)) hk (.inl rfl)); have n3_ := am (hb); have n4_ := am (hi); clear HO_3; clear HO322; clear HK; clear HB; clear HI0; have HO_3 := n0_; have HO322 := n1_; have HK := n2_; have HB := n3_; have HI0 := n4_; clear n0_ n1_ n2_ n3_ n4_; (try clear hb); (try clear hb2); (try clear hk); (try clear hi)) | ((with_reducible refine gate_builtin (b := .append) (xs := #[.tmp 19, .tmp 23]) rfl ?_); at_builtin; refine Kd.R_append (Kd.int .i64) w.heap.size rfl (.tmp 19) (.tmp 23) 22 2 (.int .i64 0) 8 rfl Try.underlying22 info2 rfl (by decide) (by omega) u3 x3_1 t323 [.int .i64 t323] (fun k_ => some k_ ≠ (.slice Ao18 y320.length co18 : Value).ownBlock) (fun _ => False) rfl rfl ?aP (fun _ hk => hk.elim) ?aF ?aO (Below.refl _ _) ?aS ?aL ?_; (case aP => exact rfl); (case aF => exact (fun k_ hk => Kd.fresh' (Kd.R_lt (by (with_reducible repeat (first | apply kra | apply krn | apply krd)); exact HO322.out)) k_ hk)); (case aO => exact (by (with_reducible repeat (first | apply kra | apply krn | apply krd)); exact Kd.R_mono HO_3.out (fun _ hk => hk.2))); (case aS => exact (keep_size (w := w) (g := g) (row := none) (by repeat (first | (with_reducible first | exact HK.out | apply KeepBut.set_ | apply keep_drewN | apply keep_drew | apply keep_alloc) | exact HK.out)))); (case aL => have := LMc14.out; omega); intro v327 w20 ho hb hg hat; rw [← Ny326.out] at ho; have n0_ := am (IsS78.grown (by repeat (first | (with_reducible first | exact HI0.out | apply IsS78.alloc | apply IsS78.drewN | apply IsS78.drew | apply IsS78.set_1 | apply IsS78.set_2) | exact HI0.out)) hg (IsS78.own_ne HI0.out HO_3.out (by decide))); have n1_ := am (Kd.R_after (ok := (fun _ => True)) (by (with_reducible repeat (first | apply kra | apply krn | apply krd)); exact HO322.out) hg hat); have n2_ := am (below_weaken (by repeat (first | (with_reducible first | exact HB.out | apply bal | apply pdn | apply bd1 | refine bst ?_ (IsS78.ge HI0.out)) | exact HB.out)) HL.out hb); have n3_ := am (KeepBut.trans (by repeat (first | (with_reducible first | exact HK.out | apply KeepBut.set_ | apply keep_drewN | apply keep_drew | apply keep_alloc) | exact HK.out)) (KeepBut.of_grown hg g) (Kd.R_base2 HO_3.out)); have n4_ := am (ho); clear HI0; clear HO322; clear HB; clear HK; clear HO_3; have HI0 := n0_; have HO322 := n1_; have HB := n2_; have HK := n3_; have HO328 := n4_; clear n0_ n1_ n2_ n3_ n4_; clear ho hb hg hat))
      go_ret
      exact ⟨_, by first | rfl | (simp [errW_none, errW_some] <;> rfl) | (simp [*, errW_none, errW_some] <;> rfl), by (with_reducible repeat (first | apply kra | apply krn | apply krd)); exact Kd.R_mono HO328.out (fun _ hk => trivial), by repeat (first | (with_reducible first | exact HI0.out | apply IsS78.alloc | apply IsS78.drewN | apply IsS78.drew | apply IsS78.set_1 | apply IsS78.set_2) | exact HI0.out), by repeat (first | (with_reducible first | exact HB.out | apply bal | apply pdn | apply bd1 | refine bst ?_ (IsS78.ge HI0.out)) | exact HB.out), by repeat (first | (with_reducible first | exact HK.out | apply KeepBut.set_ | apply keep_drewN | apply keep_drew | apply keep_alloc) | exact HK.out)⟩
     ·rw [if_neg c14] at H
      exact absurd H (by simp)
    ·replace c12 := Bool.eq_false_iff.mpr c12
     subst c12
     have H1 : (some (x3_1, t318, t319)) = some (r1, r2, r3) := by rw [if_neg (show ¬ (false = true) by decide)] at H; exact H
     clear H
     have H := H1
     clear H1
     simp only [Option.some.injEq, Prod.mk.injEq] at H
     obtain ⟨rfl, rfl, rfl⟩ := H
     go_wp2_with (first | ((with_reducible refine gate_callee (f := 70) rfl ?_); refine goesL_ (some 18) rfl rfl Try.func70 (by kernel_rfl) rfl #[.pointer (some ⟨g, 0, none⟩), .int .i64 20] rfl (by (try simp only [mta, mco, mni]); first | done | rfl | (simp only [lnd, lnt]; rfl)) ?_; (with_reducible refine (spec_l00Src_one.calls g s0_0 x1001_1 x1002_1 20 false t318 t319 w0 _ ?side1 ?side2 A11.out).mono ?_); (case side1 => repeat (first | (with_reducible first | exact HI0.out | apply IsS78.alloc | apply IsS78.drewN | apply IsS78.drew | apply IsS78.set_1 | apply IsS78.set_2) | exact HI0.out)); (case side2 => repeat (first | (with_reducible first | exact HB.out | apply bal | apply pdn | apply bd1 | refine bst ?_ (IsS78.ge HI0.out)) | exact HB.out)); rintro e w21 ⟨rfl, hi, hb, hk⟩; refine ⟨_, rfl, ?_⟩; have n0_ := am (Kd.R_mono (Kd.R_keep (IsS78.apart (show IsS78 w0 _ g s0_0 x1001_1 x1002_1 from by repeat (first | (with_reducible first | exact HI0.out | apply IsS78.alloc | apply IsS78.drewN | apply IsS78.drew | apply IsS78.set_1 | apply IsS78.set_2) | exact HI0.out)) (by (with_reducible repeat (first | apply kra | apply krn | apply krd)); exact HO_3.out) (by decide)) hk (fun _ h => h.2)) (fun _ h => h.1)); have n1_ := am (KeepBut.trans (by repeat (first | (with_reducible first | exact HK.out | apply KeepBut.set_ | apply keep_drewN | apply keep_drew | apply keep_alloc) | exact HK.out)) hk (.inl rfl)); have n2_ := am (hb); have n3_ := am (hi); clear HO_3; clear HK; clear HB; clear HI0; have HO_3 := n0_; have HK := n1_; have HB := n2_; have HI0 := n3_; clear n0_ n1_ n2_ n3_; (try clear hb); (try clear hb2); (try clear hk); (try clear hi)))
     go_ret
     exact ⟨_, by first | rfl | (simp [errW_none, errW_some] <;> rfl) | (simp [*, errW_none, errW_some] <;> rfl), by (with_reducible repeat (first | apply kra | apply krn | apply krd)); exact HO_3.out, by repeat (first | (with_reducible first | exact HI0.out | apply IsS78.alloc | apply IsS78.drewN | apply IsS78.drew | apply IsS78.set_1 | apply IsS78.set_2) | exact HI0.out), by repeat (first | (with_reducible first | exact HB.out | apply bal | apply pdn | apply bd1 | refine bst ?_ (IsS78.ge HI0.out)) | exact HB.out), by repeat (first | (with_reducible first | exact HK.out | apply KeepBut.set_ | apply keep_drewN | apply keep_drew | apply keep_alloc) | exact HK.out)⟩

end Go.Proofs.Ytfeaokelfbjcdaa.MFnHeard
