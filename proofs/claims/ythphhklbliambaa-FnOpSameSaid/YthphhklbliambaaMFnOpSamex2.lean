-- Written by a program of this session (wip/tools/myprint.py) over the kit's print: it is not the kit's print.
import Derived.Test.YthphhklbliambaaExtra
import Derived.Test.YthphhklbliambaaMFnOpSamex0
import Derived.Test.YthphhklbliambaaMFnOpSamex1
namespace Go.Proofs.Ythphhklbliambaa.MFnOpSame
open Go.RowKit Go.Proofs.YthphhklbliambaaW.PrintWords Go.Proofs.YthphhklbliambaaW.PrintLast Go.Proofs.YthphhklbliambaaW.PrintMore
open List renaming setIfInBounds_toArray → sit, set_cons_zero → scz, set_cons_succ → scs, map_toArray → mta, map_cons → mco, map_nil → mni, length_drop → lnd, length_take → lnt
attribute [local go_sem] max2_int min2_int max_two min_two max_three min_three max_four min_four   -- for this text's walks alone
set_option linter.unusedVariables false
set_option linter.unusedSimpArgs false

/-! ### impl_overwritten: function 122 -/
def impl_overwritten.f (body : ByteArray) (a : Int) (bytes : ByteArray) : Option (ByteArray) :=
 if 0 ≤ a ∧ a ≤ 64 ∧ body.size ≤ 64 ∧ bytes.size ≤ 64 then some ⟨(spec_l16Lay.lay (spec_l16Lay.pad body.data.toList a.toNat) bytes.data.toList a.toNat (min bytes.size (64 - a.toNat))).toArray⟩ else none
theorem impl_overwritten.ext {r : ByteArray} {L : List UInt8} (h : r.data.toList = L) : r = ⟨L.toArray⟩ := by
 apply ByteArray.ext
 show r.data = L.toArray
 rw [← h, Array.toArray_toList]
theorem impl_overwritten.app (a b : ByteArray) : (a ++ b).data.toList = a.data.toList ++ b.data.toList := by simp
theorem impl_overwritten.ex (a : ByteArray) (i j : Nat) : (a.extract i j).data.toList = (a.data.toList.drop i).take (j - i) := by simp
theorem impl_overwritten.len (a : ByteArray) : a.data.toList.length = a.size := by simp
theorem impl_overwritten.rep (n : Nat) : Go.Lib.repeatL ([0] : List UInt8) n = List.replicate n 0 := by
 have := Go.Lib.repeatL_replicate (0 : UInt8) 1 n
 simpa using this
theorem impl_overwritten.short (P X R : ByteArray) (a : Nat) (hP : P.size ≤ 64) (ha : a ≤ P.size) (h : a + X.size < P.size) (hR : R.data.toList = P.data.toList.take a ++ X.data.toList ++ P.data.toList.drop (a + X.size)) (hs : R.size = P.size) :
  R.extract 0 P.size = ⟨(spec_l16Lay.lay P.data.toList X.data.toList a (min X.size (64 - a))).toArray⟩ := by
 have hlP := impl_overwritten.len P
 have hlX := impl_overwritten.len X
 apply impl_overwritten.ext
 rw [impl_overwritten.ex, hR, show min X.size (64 - a) = X.size from by omega]
 unfold spec_l16Lay.lay
 rw [List.drop_zero, List.take_of_length_le (by simp; omega), List.take_of_length_le (l := X.data.toList) (by omega)]
theorem impl_overwritten.long (P X O : ByteArray) (a : Nat) (hP : P.size ≤ 64) (ha : a ≤ P.size) (h : ¬ a + X.size < P.size) (hO : O.data.toList = P.data.toList.take a ++ X.data.toList) :
  O.extract 0 (min (a + X.size) 64) = ⟨(spec_l16Lay.lay P.data.toList X.data.toList a (min X.size (64 - a))).toArray⟩ := by
 have hlP := impl_overwritten.len P
 have hlX := impl_overwritten.len X
 apply impl_overwritten.ext
 rw [impl_overwritten.ex, hO]
 unfold spec_l16Lay.lay
 rw [List.drop_zero, Nat.sub_zero, List.drop_of_length_le (by omega), List.append_nil, List.take_append, List.take_of_length_le (by simp; omega)]
 congr 1
 rw [lnt, show min (a + X.size) 64 - min a P.data.toList.length = min X.size (64 - a) from by omega]
set_option maxHeartbeats 4000000 in
set_option maxRecDepth 100000 in
theorem impl_overwritten.calls (a0 : ByteArray) (a1 : Int) (a2 : ByteArray) (r : ByteArray) (w : World) (h : impl_overwritten.f a0 a1 a2 = some r) :
  Calls Try.prog 122 #[.string a0, .int .i64 a1, .string a2] w fun e w' => e = .returned (.string r) ∧ Below w.heap.size w w' := by
 unfold impl_overwritten.f at h
 split at h
 case isFalse => cases h
 rename_i hc
 obtain ⟨hc0, hc1, hc2, hc3⟩ := hc
 obtain ⟨a, rfl⟩ := Int.eq_ofNat_of_zero_le hc0
 rw [Int.toNat_natCast] at h
 have HR := am (Option.some.inj h)
 clear h hc0
 have HL0 := am (impl_overwritten.len a0)
 have HWR : Aside0 (wrap64 ((a : Int) - (a0.size : Int)) = (a : Int) - (a0.size : Int)) := ⟨by unfold wrap64; omega⟩
 go_enter Try.func122, Try.ntmps122
 go_upto_if 14 with fail
 go_cut [0] (fun s0 wx => ∃ P : ByteArray, s0 = .string P ∧ Aside0 (P.data.toList = spec_l16Lay.pad a0.data.toList a ∧ P.size ≤ 64 ∧ a ≤ P.size) ∧ Aside0 (Below w.heap.size w wx))
 case first =>
  by_cases hp : (0 : Int) < (a : Int) - (a0.size : Int)
  ·have hpb : decide (a0.size < a) = true := decide_eq_true (by omega)
   obtain ⟨t, ht⟩ : ∃ t : ByteArray, strings_Repeat.f (⟨#[0]⟩ : ByteArray) ((a : Int) - (a0.size : Int)) = some t ∧ t.data.toList = List.replicate (a - a0.size) 0 := by
    unfold strings_Repeat.f
    have e1 : (⟨#[0]⟩ : ByteArray).size = 1 := rfl
    have e2 : (⟨#[0]⟩ : ByteArray).data.toList = [0] := rfl
    rw [if_pos ⟨by omega, by rw [e1]; omega, by omega⟩, e2, impl_overwritten.rep, show ((a : Int) - (a0.size : Int)).toNat = a - a0.size from by omega]
    exact ⟨_, rfl, by simp⟩
   have hts : t.size = a - a0.size := by rw [← impl_overwritten.len, ht.2]; simp
   have HT := am ht
   have hadd : (9223372036854775807 < a0.size + t.size) = False := eq_false (by omega)
   have hadd1 : decide (a0.size + t.size ≤ 9223372036854775807) = true := decide_eq_true (by omega)
   have hadd2 : (a0.size + t.size ≤ 9223372036854775807) = True := eq_true (by omega)
   have HTS := am hts
   clear ht hts
   go_wp2_with (go_at_call 128; refine (strings_Repeat.calls _ _ t _ HT.out.1).mono ?_; rintro e w' ⟨rfl, hb⟩; have HB := am hb; clear hb)
   go_meet
   have hl := HL0.out
   refine ⟨_, rfl, ⟨?_, ?_, ?_⟩, HB⟩
   ·rw [impl_overwritten.app, HT.out.2]
    unfold spec_l16Lay.pad
    rw [hl]
   ·rw [ByteArray.size_append, HTS.out]; omega
   ·rw [ByteArray.size_append, HTS.out]; omega
  ·have hpb : decide (a0.size < a) = false := decide_eq_false (by omega)
   go_wp2
   go_meet
   have hl := HL0.out
   refine ⟨_, rfl, ⟨?_, hc2, by omega⟩, ⟨Below.refl _ _⟩⟩
   unfold spec_l16Lay.pad
   rw [show a - a0.data.toList.length = 0 from by omega, List.replicate_zero, List.append_nil]
 case rest =>
  obtain ⟨P, rfl, HP, HB⟩ := hcut
  have hP := HP.out
  have hq0 : ((0 : Int) ≤ (a : Int)) = True := eq_true (by omega)
  have hq1 : ((a : Int) ≤ (P.size : Int)) = True := eq_true (by omega)
  have hq2 : (a ≤ P.size) = True := eq_true hP.2.2
  have hs0 : (P.extract 0 a).size = a := by rw [ByteArray.size_extract]; omega
  have hadd : (9223372036854775807 < (P.extract 0 a).size + a2.size) = False := eq_false (by omega)
  have hadd2 : ((P.extract 0 a).size + a2.size ≤ 9223372036854775807) = True := eq_true (by omega)
  have hd : ((P.extract 0 a) ++ a2).data.toList = P.data.toList.take a ++ a2.data.toList := by rw [impl_overwritten.app, impl_overwritten.ex]; simp
  have hs : ((P.extract 0 a) ++ a2).size = a + a2.size := by rw [ByteArray.size_append, hs0]
  have HD := am hd
  have HS := am hs
  clear hd hs hP hs0
  go_upto_if 28 with fail
  generalize P.extract 0 a ++ a2 = O at HD HS ⊢
  have hP := HP.out
  by_cases h : a + a2.size < P.size
  ·have hlt : decide ((a : Int) + (a2.size : Int) < (P.size : Int)) = true := decide_eq_true (by omega)
   have hlt1 : (a + a2.size < P.size) = True := eq_true h
   have hlt2 : decide (a + a2.size < P.size) = true := decide_eq_true h
   have hr1 : (O.size ≤ P.size) = True := eq_true (by have := HS.out; omega)
   have hr2 : (9223372036854775807 < P.size) = False := eq_false (by omega)
   have hr3 : (64 < (P.size : Int)) = False := eq_false (by omega)
   have HF : Aside0 ((O ++ P.extract O.size P.size).extract 0 P.size = r) := ⟨by
    rw [impl_overwritten.short P a2 _ a hP.2.1 hP.2.2 h (by rw [impl_overwritten.app, impl_overwritten.ex, HD.out, HS.out, List.take_of_length_le (l := P.data.toList.drop (a + a2.size)) (by simp)]) (by rw [ByteArray.size_append, ByteArray.size_extract]; have := HS.out; omega), hP.1]
    exact HR.out⟩
   clear hP h
   go_wp2
   ·go_ret
    exact ⟨by rw [← HF.out] <;> rfl, HB.out⟩
   all_goals (exfalso; have q := of_decide_eq_true hlt2; omega)
  ·have hlt : decide ((a : Int) + (a2.size : Int) < (P.size : Int)) = false := decide_eq_false (by omega)
   have hlt1 : (a + a2.size < P.size) = False := eq_false h
   have hlt2 : decide (a + a2.size < P.size) = false := decide_eq_false h
   have HF : Aside0 (O.extract 0 (min (a + a2.size) 64) = r) := ⟨by
    rw [impl_overwritten.long P a2 O a hP.2.1 hP.2.2 h HD.out, hP.1]
    exact HR.out⟩
   clear hP
   by_cases h64 : 64 < O.size
   ·have hr3 : (64 < (O.size : Int)) = True := eq_true (by omega)
    have hr4 : (64 ≤ O.size) = True := eq_true (by omega)
    have HF2 : Aside0 (O.extract 0 64 = r) := ⟨by rw [← HF.out]; congr 1; have := HS.out; omega⟩
    go_wp2
    go_ret
    exact ⟨by rw [← HF2.out] <;> rfl, HB.out⟩
   ·have hr3 : (64 < (O.size : Int)) = False := eq_false (by omega)
    have HF2 : Aside0 (O = r) := ⟨by rw [← HF.out, show min (a + a2.size) 64 = O.size from by have := HS.out; omega]; simp⟩
    go_wp2
    go_ret
    exact ⟨by rw [← HF2.out] <;> rfl, HB.out⟩

/-! ### impl_Op_apply: function 96 -/
def impl_Op_apply.j0 : Nat → ByteArray → Bool → Int → Int → ByteArray → Option (ByteArray × Bool)
 | 0, _, _, _, _, _ => none
 | k + 1, x1, x2, x111000, x111001, x111002 => if x111000 = 2 then (some (x111002, true)) else (if x111000 = 3 then ((impl_overwritten.f x1 x111001 x111002).bind fun t111 => (some (t111, true))) else (if x111000 = 4 then ((impl_overwritten.f x1 (x1.size : Int) x111002).bind fun t112 => (some (t112, true))) else (if x111000 = 5 then (if 0 ≤ (mn (x1.size : Int) x111001) then (if (mn (x1.size : Int) x111001) ≤ (x1.size : Int) then (some (x1.extract 0 ((mn (x1.size : Int) x111001) : Int).toNat, x2)) else (none)) else (none)) else (if x111000 = 6 then (some ((⟨#[]⟩ : ByteArray), false)) else (some (x1, x2))))))
def impl_Op_apply.f (k : Nat) (a0_0 : Int) (a0_1 : Int) (a0_2 : ByteArray) (a1 : ByteArray) (a2 : Bool) : Option (ByteArray × Bool) := if a2 = true then (impl_Op_apply.j0 k a1 a2 a0_0 a0_1 a0_2) else (impl_Op_apply.j0 k (⟨#[]⟩ : ByteArray) a2 a0_0 a0_1 a0_2)
theorem impl_Op_apply.mono_l : ∀ k, (∀ y0 y1 y2 y3 y4, LeO (impl_Op_apply.j0 k y0 y1 y2 y3 y4) (impl_Op_apply.j0 (k + 1) y0 y1 y2 y3 y4))
 | 0 => fun _ _ _ _ _ r h => by simp [impl_Op_apply.j0] at h
 | k + 1 => by
  have ih0 := impl_Op_apply.mono_l k
  ·intro y0 y1 y2 y3 y4
   unfold impl_Op_apply.j0
   repeat' first
   | (with_reducible exact ih0 _ _ _ _ _)
   | (with_reducible exact LeO.refl _)
   | (with_reducible exact LeO.none _)
   | (with_reducible refine LeO.ite ?_ ?_)
   | (with_reducible refine LeO.bind ?_ (fun _ => ?_))
   | exact ih0 _ _ _ _ _
   | exact LeO.none _
   | refine LeO.ite ?_ ?_
   | refine LeO.bind ?_ (fun _ => ?_)
theorem impl_Op_apply.mono : ∀ a0 a1 a2 a3 a4 k, LeO (impl_Op_apply.f k a0 a1 a2 a3 a4) (impl_Op_apply.f (k + 1) a0 a1 a2 a3 a4) := by
 intro a0 a1 a2 a3 a4 k
 have ih0 := impl_Op_apply.mono_l k
 unfold impl_Op_apply.f
 repeat' first
   | (with_reducible exact ih0 _ _ _ _ _)
   | (with_reducible exact LeO.refl _)
   | (with_reducible exact LeO.none _)
   | (with_reducible refine LeO.ite ?_ ?_)
   | (with_reducible refine LeO.bind ?_ (fun _ => ?_))
   | exact ih0 _ _ _ _ _
   | exact LeO.none _
   | refine LeO.ite ?_ ?_
   | refine LeO.bind ?_ (fun _ => ?_)
set_option maxHeartbeats 8000000 in
set_option maxRecDepth 100000 in
theorem impl_Op_apply.calls (k : Nat) (a0_0 : Int) (a0_1 : Int) (a0_2 : ByteArray) (a1 : ByteArray) (a2 : Bool) (r1 : ByteArray) (r2 : Bool) (w : World) (h : impl_Op_apply.f k a0_0 a0_1 a0_2 a1 a2 = some (r1, r2)) :
  Calls Try.prog 96 #[.agg #[.int .i64 a0_0, .int .i64 a0_1, .string a0_2], .string a1, .bool a2] w fun e w' => e = .returned (.tuple #[.string r1, .bool r2]) ∧ Below w.heap.size w w' := by
 have hu60 := Try.underlying60
 have HB := am (Below.refl w.heap.size w)
 have H : (if a2 = true then (impl_Op_apply.j0 k a1 a2 a0_0 a0_1 a0_2) else (impl_Op_apply.j0 k (⟨#[]⟩ : ByteArray) a2 a0_0 a0_1 a0_2)) = some (r1, r2) := h
 clear h
 have HC4 := am H
 clear H
 go_enter Try.func96, Try.ntmps96
 go_upto_if 9 with (first | ((with_reducible refine gate_dst (N := 3) rfl ?_); refine box_event ?hg (N := 3) ?hd (cs := #[.int .i64 a0_0, .int .i64 a0_1, .string a0_2]) (t := 60) ?hr ?_; (case hd => rfl); (case hg => rfl); (case hr => first | (go_simp; done) | (go_simp; rfl)); intro gb110 hg w5 hbox hb; have n0_ := am (below_step (by repeat (first | (with_reducible first | exact HB.out | apply bal | apply pdn | apply bd1) | exact HB.out)) hb); have n1_ := am (hbox); have n2_ := am ((by rw [hg]; exact (below_size (by repeat (first | (with_reducible first | exact HB.out | apply bal | apply pdn | apply bd1) | exact HB.out))) : w.heap.size ≤ gb110)); have n3_ := am ((by rw [hg]; exact (below_size (by repeat (first | (with_reducible first | exact HB.out | apply bal | apply pdn | apply bd1) | exact HB.out))) : w.heap.size ≤ gb110)); clear HB; have HB := n0_; have BK110 := n1_; have GW110 := n2_; have GE110 := n3_; clear n0_ n1_ n2_ n3_; clear hb hbox hg))
 (try simp only [Act.put, sit, scz, scs])
 go_cut [1] (fun v1 wc => ∃ (kq : Nat) (x1_3 : ByteArray), v1 = .string x1_3 ∧ Aside0 (impl_Op_apply.j0 kq x1_3 a2 a0_0 a0_1 a0_2 = some (r1, r2)) ∧ Aside0 (kq ≤ k) ∧ Aside0 (wc.heap[gb110]? = some (.cells #[.int .i64 a0_0, .int .i64 a0_1, .string a0_2] 60 (0, 0))) ∧ Aside0 (Below w.heap.size w wc))
 case first =>
  have H := HC4.out
  clear HC4
  by_cases c6 : a2 = true
  ·subst c6
   have H1 : (impl_Op_apply.j0 k a1 true a0_0 a0_1 a0_2) = some (r1, r2) := by rw [if_pos rfl] at H; exact H
   clear H
   have H := H1
   clear H1
   have H' := am H
   clear H
   go_wp2
   go_meet
   case rel => exact ⟨_, (a1), (by first | rfl | (simp; done) | (simp [*]; done)), H', ⟨by first | omega | exact Nat.le_refl _⟩, ⟨by (with_reducible repeat (first | apply kdn | apply kdr | apply kal)); exact BK110.out⟩, ⟨by repeat (first | (with_reducible first | exact HB.out | apply bal | apply pdn | apply bd1 | refine bst ?_ GE110.out) | exact HB.out)⟩⟩
  ·replace c6 := Bool.eq_false_iff.mpr c6
   subst c6
   have H1 : (impl_Op_apply.j0 k (⟨#[]⟩ : ByteArray) false a0_0 a0_1 a0_2) = some (r1, r2) := by rw [if_neg (show ¬ (false = true) by decide)] at H; exact H
   clear H
   have H := H1
   clear H1
   have H' := am H
   clear H
   go_wp2
   go_meet
   case rel => exact ⟨_, ((⟨#[]⟩ : ByteArray)), (by first | rfl | (simp; done) | (simp [*]; done)), H', ⟨by first | omega | exact Nat.le_refl _⟩, ⟨by (with_reducible repeat (first | apply kdn | apply kdr | apply kal)); exact BK110.out⟩, ⟨by repeat (first | (with_reducible first | exact HB.out | apply bal | apply pdn | apply bd1 | refine bst ?_ GE110.out) | exact HB.out)⟩⟩
 case rest =>
  clear HC4
  obtain ⟨kq, x1_3, rfl, HA, HJ3, BK110, HB⟩ := hcut
  cases kq with
  | zero => exact absurd HA.out (by simp [impl_Op_apply.j0])
  | succ kj3 =>
   have H := HA.out
   clear HA
   simp only [impl_Op_apply.j0] at H
   by_cases c7 : a0_0 = 2
   ·rw [if_pos c7] at H
    have c7b0 : (a0_0 == 2) = true := beq_iff_eq.mpr c7
    have c7b1 : (a0_0 != 2) = false := bne_eq_false_iff_eq.mpr c7
    clear c7
    simp only [Option.some.injEq, Prod.mk.injEq] at H
    obtain ⟨rfl, rfl⟩ := H
    have hcz8_0 : wc.cell? ⟨gb110, 0, none⟩ = some (.int .i64 a0_0) := (kce BK110.out 0).trans rfl
    have hcz8_1 : wc.cell? ⟨gb110, 1, none⟩ = some (.int .i64 a0_1) := (kce BK110.out 1).trans rfl
    have hcz8_2 : wc.cell? ⟨gb110, 2, none⟩ = some (.string a0_2) := (kce BK110.out 2).trans rfl
    have hfz8_0 := kfr BK110.out 0
    have hfz8_1 := kfr BK110.out 1
    have hfz8_2 := kfr BK110.out 2
    go_wp2
    go_ret2
    exact ⟨by first | rfl | (simp [errW_none, errW_some] <;> rfl) | (simp [*, errW_none, errW_some] <;> rfl), by repeat (first | (with_reducible first | exact HB.out | apply bal | apply pdn | apply bd1 | refine bst ?_ GE110.out) | exact HB.out)⟩
   ·rw [if_neg c7] at H
    have c7b0 : (a0_0 == 2) = false := beq_eq_false_iff_ne.mpr c7
    have c7b1 : (a0_0 != 2) = true := bne_iff_ne.mpr c7
    by_cases c9 : a0_0 = 3
    ·rw [if_pos c9] at H
     have c9b0 : (a0_0 == 3) = true := beq_iff_eq.mpr c9
     have c9b1 : (a0_0 != 3) = false := bne_eq_false_iff_eq.mpr c9
     clear c9
     replace H := Option.bind_eq_some_iff.mp H
     obtain ⟨t111, A100, H⟩ := H
     replace H : (some (t111, true)) = some (r1, r2) := H
     have A10 := am A100
     clear A100
     simp only [Option.some.injEq, Prod.mk.injEq] at H
     obtain ⟨rfl, rfl⟩ := H
     have hcz11_0 : wc.cell? ⟨gb110, 0, none⟩ = some (.int .i64 a0_0) := (kce BK110.out 0).trans rfl
     have hcz11_1 : wc.cell? ⟨gb110, 1, none⟩ = some (.int .i64 a0_1) := (kce BK110.out 1).trans rfl
     have hcz11_2 : wc.cell? ⟨gb110, 2, none⟩ = some (.string a0_2) := (kce BK110.out 2).trans rfl
     have hfz11_0 := kfr BK110.out 0
     have hfz11_1 := kfr BK110.out 1
     have hfz11_2 := kfr BK110.out 2
     go_wp2_with (first | ((with_reducible refine gate_callee (f := 122) rfl ?_); refine goesL_ (some 23) rfl rfl Try.func122 (by kernel_rfl) rfl #[.string x1_3, .int .i64 a0_1, .string a0_2] rfl (by (try simp only [mta, mco, mni]); first | done | rfl | (simp only [lnd, lnt]; rfl)) ?_; (with_reducible refine (impl_overwritten.calls x1_3 a0_1 a0_2 t111 _ A10.out).mono ?_); rintro e w12 ⟨rfl, hb⟩; refine ⟨_, rfl, ?_⟩; have n0_ := am (kbb (g := gb110) (o := .cells #[.int .i64 a0_0, .int .i64 a0_1, .string a0_2] 60 (0, 0)) (by (with_reducible repeat (first | apply kdn | apply kdr | apply kal)); exact BK110.out) hb); have n1_ := am (below_step (by repeat (first | (with_reducible first | exact HB.out | apply bal | apply pdn | apply bd1 | refine bst ?_ GE110.out) | exact HB.out)) hb); clear BK110; clear HB; have BK110 := n0_; have HB := n1_; clear n0_ n1_; (try clear hb); (try clear hb2); (try clear hk); (try clear hi)))
     go_ret2
     exact ⟨by first | rfl | (simp [errW_none, errW_some] <;> rfl) | (simp [*, errW_none, errW_some] <;> rfl), by repeat (first | (with_reducible first | exact HB.out | apply bal | apply pdn | apply bd1 | refine bst ?_ GE110.out) | exact HB.out)⟩
    ·rw [if_neg c9] at H
     have c9b0 : (a0_0 == 3) = false := beq_eq_false_iff_ne.mpr c9
     have c9b1 : (a0_0 != 3) = true := bne_iff_ne.mpr c9
     by_cases c13 : a0_0 = 4
     ·rw [if_pos c13] at H
      have c13b0 : (a0_0 == 4) = true := beq_iff_eq.mpr c13
      have c13b1 : (a0_0 != 4) = false := bne_eq_false_iff_eq.mpr c13
      clear c13
      replace H := Option.bind_eq_some_iff.mp H
      obtain ⟨t112, A140, H⟩ := H
      replace H : (some (t112, true)) = some (r1, r2) := H
      have A14 := am A140
      clear A140
      simp only [Option.some.injEq, Prod.mk.injEq] at H
      obtain ⟨rfl, rfl⟩ := H
      have hcz15_0 : wc.cell? ⟨gb110, 0, none⟩ = some (.int .i64 a0_0) := (kce BK110.out 0).trans rfl
      have hcz15_1 : wc.cell? ⟨gb110, 1, none⟩ = some (.int .i64 a0_1) := (kce BK110.out 1).trans rfl
      have hcz15_2 : wc.cell? ⟨gb110, 2, none⟩ = some (.string a0_2) := (kce BK110.out 2).trans rfl
      have hfz15_0 := kfr BK110.out 0
      have hfz15_1 := kfr BK110.out 1
      have hfz15_2 := kfr BK110.out 2
      go_wp2_with (first | ((with_reducible refine gate_callee (f := 122) rfl ?_); refine goesL_ (some 31) rfl rfl Try.func122 (by kernel_rfl) rfl #[.string x1_3, .int .i64 (x1_3.size : Int), .string a0_2] rfl (by (try simp only [mta, mco, mni]); first | done | rfl | (simp only [lnd, lnt]; rfl)) ?_; (with_reducible refine (impl_overwritten.calls x1_3 (x1_3.size : Int) a0_2 t112 _ A14.out).mono ?_); rintro e w16 ⟨rfl, hb⟩; refine ⟨_, rfl, ?_⟩; have n0_ := am (kbb (g := gb110) (o := .cells #[.int .i64 a0_0, .int .i64 a0_1, .string a0_2] 60 (0, 0)) (by (with_reducible repeat (first | apply kdn | apply kdr | apply kal)); exact BK110.out) hb); have n1_ := am (below_step (by repeat (first | (with_reducible first | exact HB.out | apply bal | apply pdn | apply bd1 | refine bst ?_ GE110.out) | exact HB.out)) hb); clear BK110; clear HB; have BK110 := n0_; have HB := n1_; clear n0_ n1_; (try clear hb); (try clear hb2); (try clear hk); (try clear hi)))
      go_ret2
      exact ⟨by first | rfl | (simp [errW_none, errW_some] <;> rfl) | (simp [*, errW_none, errW_some] <;> rfl), by repeat (first | (with_reducible first | exact HB.out | apply bal | apply pdn | apply bd1 | refine bst ?_ GE110.out) | exact HB.out)⟩
     ·rw [if_neg c13] at H
      have c13b0 : (a0_0 == 4) = false := beq_eq_false_iff_ne.mpr c13
      have c13b1 : (a0_0 != 4) = true := bne_iff_ne.mpr c13
      by_cases c17 : a0_0 = 5
      ·rw [if_pos c17] at H
       have c17b0 : (a0_0 == 5) = true := beq_iff_eq.mpr c17
       have c17b1 : (a0_0 != 5) = false := bne_eq_false_iff_eq.mpr c17
       clear c17
       obtain ⟨ji18, hji18⟩ : ∃ j_ : Int, (mn (x1_3.size : Int) a0_1) = j_ := ⟨_, rfl⟩
       replace H : (if 0 ≤ (ji18) then (if (ji18) ≤ (x1_3.size : Int) then (some (x1_3.extract 0 ((ji18) : Int).toNat, a2)) else (none)) else (none)) = some (r1, r2) := by first | (rw [hji18] at H; exact H) | (simp only [hji18] at H ⊢; exact H)
       have hji18_ : (if a0_1 < (x1_3.size : Int) then a0_1 else (x1_3.size : Int)) = ji18 := hji18
       by_cases c19 : 0 ≤ (ji18)
       ·rw [if_pos c19] at H
        have c19b0 := eq_true c19
        have c19b1 : decide (0 ≤ (ji18)) = true := decide_eq_true c19
        clear c19
        by_cases c20 : (ji18) ≤ (x1_3.size : Int)
        ·rw [if_pos c20] at H
         have c20b0 := eq_true c20
         have c20b1 : decide ((ji18) ≤ (x1_3.size : Int)) = true := decide_eq_true c20
         clear c20
         simp only [Option.some.injEq, Prod.mk.injEq] at H
         obtain ⟨rfl, rfl⟩ := H
         have hcz21_0 : wc.cell? ⟨gb110, 0, none⟩ = some (.int .i64 a0_0) := (kce BK110.out 0).trans rfl
         have hcz21_1 : wc.cell? ⟨gb110, 1, none⟩ = some (.int .i64 a0_1) := (kce BK110.out 1).trans rfl
         have hcz21_2 : wc.cell? ⟨gb110, 2, none⟩ = some (.string a0_2) := (kce BK110.out 2).trans rfl
         have hfz21_0 := kfr BK110.out 0
         have hfz21_1 := kfr BK110.out 1
         have hfz21_2 := kfr BK110.out 2
         go_wp2
         go_ret2
         exact ⟨by first | rfl | (simp [errW_none, errW_some] <;> rfl) | (simp only [← hji18]; first | rfl | (simp [errW_none, errW_some] <;> rfl)) | (simp [*, errW_none, errW_some] <;> rfl), by repeat (first | (with_reducible first | exact HB.out | apply bal | apply pdn | apply bd1 | refine bst ?_ GE110.out) | exact HB.out)⟩
        ·rw [if_neg c20] at H
         exact absurd H (by simp)
       ·rw [if_neg c19] at H
        exact absurd H (by simp)
      ·rw [if_neg c17] at H
       have c17b0 : (a0_0 == 5) = false := beq_eq_false_iff_ne.mpr c17
       have c17b1 : (a0_0 != 5) = true := bne_iff_ne.mpr c17
       by_cases c22 : a0_0 = 6
       ·rw [if_pos c22] at H
        have c22b0 : (a0_0 == 6) = true := beq_iff_eq.mpr c22
        have c22b1 : (a0_0 != 6) = false := bne_eq_false_iff_eq.mpr c22
        clear c22
        simp only [Option.some.injEq, Prod.mk.injEq] at H
        obtain ⟨rfl, rfl⟩ := H
        have hcz23_0 : wc.cell? ⟨gb110, 0, none⟩ = some (.int .i64 a0_0) := (kce BK110.out 0).trans rfl
        have hcz23_1 : wc.cell? ⟨gb110, 1, none⟩ = some (.int .i64 a0_1) := (kce BK110.out 1).trans rfl
        have hcz23_2 : wc.cell? ⟨gb110, 2, none⟩ = some (.string a0_2) := (kce BK110.out 2).trans rfl
        have hfz23_0 := kfr BK110.out 0
        have hfz23_1 := kfr BK110.out 1
        have hfz23_2 := kfr BK110.out 2
        go_wp2
        go_ret2
        exact ⟨by first | rfl | (simp [errW_none, errW_some] <;> rfl) | (simp [*, errW_none, errW_some] <;> rfl), by repeat (first | (with_reducible first | exact HB.out | apply bal | apply pdn | apply bd1 | refine bst ?_ GE110.out) | exact HB.out)⟩
       ·rw [if_neg c22] at H
        have c22b0 : (a0_0 == 6) = false := beq_eq_false_iff_ne.mpr c22
        have c22b1 : (a0_0 != 6) = true := bne_iff_ne.mpr c22
        simp only [Option.some.injEq, Prod.mk.injEq] at H
        obtain ⟨rfl, rfl⟩ := H
        have hcz24_0 : wc.cell? ⟨gb110, 0, none⟩ = some (.int .i64 a0_0) := (kce BK110.out 0).trans rfl
        have hcz24_1 : wc.cell? ⟨gb110, 1, none⟩ = some (.int .i64 a0_1) := (kce BK110.out 1).trans rfl
        have hcz24_2 : wc.cell? ⟨gb110, 2, none⟩ = some (.string a0_2) := (kce BK110.out 2).trans rfl
        have hfz24_0 := kfr BK110.out 0
        have hfz24_1 := kfr BK110.out 1
        have hfz24_2 := kfr BK110.out 2
        go_wp2
        go_ret2
        exact ⟨by first | rfl | (simp [errW_none, errW_some] <;> rfl) | (simp [*, errW_none, errW_some] <;> rfl), by repeat (first | (with_reducible first | exact HB.out | apply bal | apply pdn | apply bd1 | refine bst ?_ GE110.out) | exact HB.out)⟩

/-! ### impl_ApplyOp: function 44 -/
def impl_ApplyOp.f (k : Nat) (a0 : ByteArray) (a1 : Bool) (a2_0 : Int) (a2_1 : Int) (a2_2 : ByteArray) : Option (ByteArray × Bool) := (impl_plainCode.f).bind fun bt114 => ((impl_OpOk.f k bt114.1 bt114.2 a2_0 a2_1 a2_2).bind fun t116 => (if t116 = true then (if (a0.size : Int) > 64 then (some ((⟨#[]⟩ : ByteArray), false)) else ((impl_Op_apply.f k a2_0 a2_1 a2_2 a0 a1).bind fun bt117 => (some (bt117.1, bt117.2)))) else (some ((⟨#[]⟩ : ByteArray), false))))
theorem impl_ApplyOp.mono : ∀ a0 a1 a2 a3 a4 k, LeO (impl_ApplyOp.f k a0 a1 a2 a3 a4) (impl_ApplyOp.f (k + 1) a0 a1 a2 a3 a4) := by
 intro a0 a1 a2 a3 a4 k
 unfold impl_ApplyOp.f
 repeat' first
   | (with_reducible exact impl_OpOk.mono _ _ _ _ _ _)
   | (with_reducible exact impl_Op_apply.mono _ _ _ _ _ _)
   | (with_reducible exact LeO.refl _)
   | (with_reducible exact LeO.none _)
   | (with_reducible refine LeO.ite ?_ ?_)
   | (with_reducible refine LeO.bind ?_ (fun _ => ?_))
   | exact impl_OpOk.mono _ _ _ _ _ _
   | exact impl_Op_apply.mono _ _ _ _ _ _
   | exact LeO.none _
   | refine LeO.ite ?_ ?_
   | refine LeO.bind ?_ (fun _ => ?_)
def impl_ApplyOp.T1 : Bool × List (List Nat × List Nat) := (true, [([], []), ([], []), ([0, 1, 0], [0, 1]), ([2], [2]), ([3, 2], [3]), ([4], [4]), ([5, 4], [4, 5]), ([6, 4], [4, 6]), ([4, 7], [4, 7])])
def impl_ApplyOp.B1 : List Nat := [0, 0, 3, 7, 15, 31, 63, 127, 255]
theorem impl_ApplyOp.tab1 : rtab .any (opsOf Try.f44 1) = impl_ApplyOp.T1 := by kernel_rfl
theorem impl_ApplyOp.bits1 : waitsOk impl_ApplyOp.T1.2 impl_ApplyOp.B1 = true := by kernel_rfl
set_option maxHeartbeats 8000000 in
set_option maxRecDepth 100000 in
theorem impl_ApplyOp.calls (k : Nat) (a0 : ByteArray) (a1 : Bool) (a2_0 : Int) (a2_1 : Int) (a2_2 : ByteArray) (r1 : ByteArray) (r2 : Bool) (w : World) (h : impl_ApplyOp.f k a0 a1 a2_0 a2_1 a2_2 = some (r1, r2)) :
  Calls Try.prog 44 #[.string a0, .bool a1, .agg #[.int .i64 a2_0, .int .i64 a2_1, .string a2_2]] w fun e w' => e = .returned (.tuple #[.string r1, .bool r2]) ∧ Below w.heap.size w w' := by
 have hu60 := Try.underlying60
 have HB := am (Below.refl w.heap.size w)
 have H : ((impl_plainCode.f).bind fun bt114 => ((impl_OpOk.f k bt114.1 bt114.2 a2_0 a2_1 a2_2).bind fun t116 => (if t116 = true then (if (a0.size : Int) > 64 then (some ((⟨#[]⟩ : ByteArray), false)) else ((impl_Op_apply.f k a2_0 a2_1 a2_2 a0 a1).bind fun bt117 => (some (bt117.1, bt117.2)))) else (some ((⟨#[]⟩ : ByteArray), false))))) = some (r1, r2) := h
 clear h
 replace H := Option.bind_eq_some_iff.mp H
 obtain ⟨⟨t114, t115⟩, A40, H⟩ := H
 replace H : ((impl_OpOk.f k t114 t115 a2_0 a2_1 a2_2).bind fun t116 => (if t116 = true then (if (a0.size : Int) > 64 then (some ((⟨#[]⟩ : ByteArray), false)) else ((impl_Op_apply.f k a2_0 a2_1 a2_2 a0 a1).bind fun bt117 => (some (bt117.1, bt117.2)))) else (some ((⟨#[]⟩ : ByteArray), false)))) = some (r1, r2) := H
 have A4 := am A40
 clear A40
 replace H := Option.bind_eq_some_iff.mp H
 obtain ⟨t116, A50, H⟩ := H
 replace H : (if t116 = true then (if (a0.size : Int) > 64 then (some ((⟨#[]⟩ : ByteArray), false)) else ((impl_Op_apply.f k a2_0 a2_1 a2_2 a0 a1).bind fun bt117 => (some (bt117.1, bt117.2)))) else (some ((⟨#[]⟩ : ByteArray), false))) = some (r1, r2) := H
 have A5 := am A50
 clear A50
 by_cases c6 : t116 = true
 ·subst c6
  have H1 : (if (a0.size : Int) > 64 then (some ((⟨#[]⟩ : ByteArray), false)) else ((impl_Op_apply.f k a2_0 a2_1 a2_2 a0 a1).bind fun bt117 => (some (bt117.1, bt117.2)))) = some (r1, r2) := by rw [if_pos rfl] at H; exact H
  clear H
  have H := H1
  clear H1
  by_cases c7 : (a0.size : Int) > 64
  ·rw [if_pos c7] at H
   have c7b0 : decide (64 < (a0.size : Int)) = true := decide_eq_true c7
   have c7b1 : decide (64 < a0.size) = true := decide_eq_true (by omega)
   clear c7
   simp only [Option.some.injEq, Prod.mk.injEq] at H
   obtain ⟨rfl, rfl⟩ := H
   go_enter Try.func44, Try.ntmps44
   try go_wp2_with (first | ((with_reducible refine gate_dst (N := 5) rfl ?_); (try (refine gate_guard (by rfl) ?_; dsimp only)); refine box_event ?hg (N := 5) ?hd (cs := #[.int .i64 a2_0, .int .i64 a2_1, .string a2_2]) (t := 60) ?hr ?_; (case hd => rfl); (case hg => rfl); (case hr => first | (go_simp; done) | (go_simp; rfl)); intro gb113 hg w8 hbox hb; have n0_ := am (below_step (by repeat (first | (with_reducible first | exact HB.out | apply bal | apply pdn | apply bd1) | exact HB.out)) hb); have n1_ := am (hbox); have n2_ := am ((by rw [hg]; exact (below_size (by repeat (first | (with_reducible first | exact HB.out | apply bal | apply pdn | apply bd1) | exact HB.out))) : w.heap.size ≤ gb113)); have n3_ := am ((by rw [hg]; exact (below_size (by repeat (first | (with_reducible first | exact HB.out | apply bal | apply pdn | apply bd1) | exact HB.out))) : w.heap.size ≤ gb113)); clear HB; have HB := n0_; have BK113 := n1_; have GW113 := n2_; have GE113 := n3_; clear n0_ n1_ n2_ n3_; clear hb hbox hg))
   have n0_ := am (kdr BK113.out)
   have n1_ := am (bd1 HB.out)
   clear BK113
   clear HB
   have BK113 := n0_
   have HB := n1_
   clear n0_ n1_
   refine start_ (n := 9) (S := fun w' => w'.cell? ⟨gb113, 0, none⟩ = some (.int .i64 a2_0) ∧ w'.cell? ⟨gb113, 1, none⟩ = some (.int .i64 a2_1) ∧ w'.cell? ⟨gb113, 2, none⟩ = some (.string a2_2)) (ds := []) #[false, false, false, false, false, false, false, false, false] (by kernel_rfl) rfl rfl ⟨(kce BK113.out 0).trans rfl, (kce BK113.out 1).trans rfl, (kce BK113.out 2).trans rfl⟩ (fun hHeld => ?_); refine with_tabW impl_ApplyOp.tab1 impl_ApplyOp.bits1 (fun HT_ HW_ => ?_)
   generalize w8.drew = w9 at BK113 HB hHeld ⊢
   refine take_ (i := 1) (N := some 9) (v := ?_) (a' := ?_) #[false, true, false, false, false, false, false, false, false] rfl rfl (take_ofW HT_.out HW_.out (by kernel_rfl)) (fun _ _ _ h => h) (Or.inl ⟨by rfl, ?_⟩) hHeld ?_ ?_
   rotate_left
   ·rintro w' ⟨s0, s1, s2⟩
    go_simp
    with_reducible rfl
   rotate_left
   ·simp only [Act.put, sit, scz, scs, i64_w, i32_w]
    rfl
   refine one_ (i := 0) (N := some 8) #[true, true, false, false, false, false, false, false, false] rfl rfl (one_of HT_.out (by kernel_rfl)) (by decide) (fun K hK => ?_)
   refine goes_ Try.func87 (by kernel_rfl) rfl #[] (by rfl) rfl rfl (by (try simp only [mta, mco, mni]); first | done | rfl | (simp only [lnd, lnt]; rfl)) ?_
   with_reducible refine (impl_plainCode.calls  t114 t115 _ A4.out).mono ?_
   rintro e w10 ⟨rfl, hb⟩
   refine ⟨_, rfl, ?_⟩
   have n0_ := am (kbb (g := gb113) (o := .cells #[.int .i64 a2_0, .int .i64 a2_1, .string a2_2] 60 (0, 0)) (by (with_reducible repeat (first | apply kdn | apply kdr | apply kal)); exact BK113.out) hb)
   have n1_ := am (below_step (by repeat (first | (with_reducible first | exact HB.out | apply bal | apply pdn | apply bd1 | refine bst ?_ GE113.out) | exact HB.out)) hb)
   clear BK113
   clear HB
   have BK113 := n0_
   have HB := n1_
   clear n0_ n1_
   refine hK.out _ _ ⟨(kce BK113.out 0).trans rfl, (kce BK113.out 1).trans rfl, (kce BK113.out 2).trans rfl⟩ (fun hHeld => ?_)
   clear hK K
   refine norm_ (a' := ?_) ?_ ?_
   rotate_left
   ·show Act.put _ (some 8) _ = _
    simp only [Act.put, sit, scz, scs, i64_w, i32_w]
    rfl
   refine one_ (i := 2) (N := some 10) #[true, true, true, false, false, false, false, false, false] rfl rfl (one_of HT_.out (by kernel_rfl)) (by decide) (fun K hK => ?_)
   refine goes_ Try.func86 (by kernel_rfl) rfl #[.agg #[.int .i64 t114, .int .i64 t115], .agg #[.int .i64 a2_0, .int .i64 a2_1, .string a2_2]] (by rfl) rfl rfl (by (try simp only [mta, mco, mni]); first | done | rfl | (simp only [lnd, lnt]; rfl)) ?_
   with_reducible refine (impl_OpOk.calls k t114 t115 a2_0 a2_1 a2_2 true _ A5.out).mono ?_
   rintro e w11 ⟨rfl, hb⟩
   refine ⟨_, rfl, ?_⟩
   have n0_ := am (kbb (g := gb113) (o := .cells #[.int .i64 a2_0, .int .i64 a2_1, .string a2_2] 60 (0, 0)) (by (with_reducible repeat (first | apply kdn | apply kdr | apply kal)); exact BK113.out) hb)
   have n1_ := am (below_step (by repeat (first | (with_reducible first | exact HB.out | apply bal | apply pdn | apply bd1 | refine bst ?_ GE113.out) | exact HB.out)) hb)
   clear BK113
   clear HB
   have BK113 := n0_
   have HB := n1_
   clear n0_ n1_
   refine hK.out _ _ ⟨(kce BK113.out 0).trans rfl, (kce BK113.out 1).trans rfl, (kce BK113.out 2).trans rfl⟩ (fun hHeld => ?_)
   clear hK K
   refine norm_ (a' := ?_) ?_ ?_
   rotate_left
   ·show Act.put _ (some 10) _ = _
    simp only [Act.put, sit, scz, scs, i64_w, i32_w]
    rfl
   refine pure_ (i := 3) (N := some 11) (v := ?_) (a' := ?_) #[true, true, true, true, false, false, false, false, false] rfl rfl (any_of HT_.out (by kernel_rfl)) (fun _ _ _ h => h) (Or.inl ⟨by rfl, ?_⟩) ?_ ?_
   rotate_left
   ·intro w'
    go_simp
    with_reducible rfl
   rotate_left
   ·simp only [Act.put, sit, scz, scs, i64_w, i32_w]
    rfl
   refine pure_ (i := 4) (N := some 12) (v := ?_) (a' := ?_) #[true, true, true, true, true, false, false, false, false] rfl rfl (any_of HT_.out (by kernel_rfl)) (fun _ _ _ h => h) (Or.inl ⟨by rfl, ?_⟩) ?_ ?_
   rotate_left
   ·intro w'
    go_simp
    with_reducible rfl
   rotate_left
   ·simp only [Act.put, sit, scz, scs, i64_w, i32_w]
    rfl
   refine pure_ (i := 5) (N := some 13) (v := ?_) (a' := ?_) #[true, true, true, true, true, true, false, false, false] rfl rfl (any_of HT_.out (by kernel_rfl)) (fun _ _ _ h => h) (Or.inl ⟨by rfl, ?_⟩) ?_ ?_
   rotate_left
   ·intro w'
    go_simp
    with_reducible rfl
   rotate_left
   ·simp only [Act.put, sit, scz, scs, i64_w, i32_w]
    rfl
   refine pure_ (i := 6) (N := some 14) (v := ?_) (a' := ?_) #[true, true, true, true, true, true, true, false, false] rfl rfl (any_of HT_.out (by kernel_rfl)) (fun _ _ _ h => h) (Or.inl ⟨by rfl, ?_⟩) ?_ ?_
   rotate_left
   ·intro w'
    go_simp
    with_reducible rfl
   rotate_left
   ·simp only [Act.put, sit, scz, scs, i64_w, i32_w]
    rfl
   refine pure_ (i := 7) (N := some 15) (v := ?_) (a' := ?_) #[true, true, true, true, true, true, true, true, false] rfl rfl (any_of HT_.out (by kernel_rfl)) (fun _ _ _ h => h) (Or.inl ⟨by rfl, ?_⟩) ?_ ?_
   rotate_left
   ·intro w'
    go_simp
    with_reducible rfl
   rotate_left
   ·simp only [Act.put, sit, scz, scs, i64_w, i32_w]
    rfl
   refine pure_ (i := 8) (N := some 16) (v := ?_) (a' := ?_) #[true, true, true, true, true, true, true, true, true] rfl rfl (any_of HT_.out (by kernel_rfl)) (fun _ _ _ h => h) (Or.inl ⟨by rfl, ?_⟩) ?_ ?_
   rotate_left
   ·intro w'
    go_simp
    with_reducible rfl
   rotate_left
   ·simp only [Act.put, sit, scz, scs, i64_w, i32_w]
    rfl
   refine done_ (done_of HT_.out (by kernel_rfl)) ?_
   try go_wp2
   go_ret2
   exact ⟨by first | rfl | (simp [errW_none, errW_some] <;> rfl) | (simp [*, errW_none, errW_some] <;> rfl), by repeat (first | (with_reducible first | exact HB.out | apply bal | apply pdn | apply bd1 | refine bst ?_ GE113.out) | exact HB.out)⟩
  ·rw [if_neg c7] at H
   have c7b0 : decide (64 < (a0.size : Int)) = false := decide_eq_false c7
   have c7b1 : decide (64 < a0.size) = false := decide_eq_false (by omega)
   clear c7
   replace H := Option.bind_eq_some_iff.mp H
   obtain ⟨⟨t117, t118⟩, A120, H⟩ := H
   replace H : (some (t117, t118)) = some (r1, r2) := H
   have A12 := am A120
   clear A120
   simp only [Option.some.injEq, Prod.mk.injEq] at H
   obtain ⟨rfl, rfl⟩ := H
   go_enter Try.func44, Try.ntmps44
   try go_wp2_with (first | ((with_reducible refine gate_dst (N := 5) rfl ?_); (try (refine gate_guard (by rfl) ?_; dsimp only)); refine box_event ?hg (N := 5) ?hd (cs := #[.int .i64 a2_0, .int .i64 a2_1, .string a2_2]) (t := 60) ?hr ?_; (case hd => rfl); (case hg => rfl); (case hr => first | (go_simp; done) | (go_simp; rfl)); intro gb113 hg w13 hbox hb; have n0_ := am (below_step (by repeat (first | (with_reducible first | exact HB.out | apply bal | apply pdn | apply bd1) | exact HB.out)) hb); have n1_ := am (hbox); have n2_ := am ((by rw [hg]; exact (below_size (by repeat (first | (with_reducible first | exact HB.out | apply bal | apply pdn | apply bd1) | exact HB.out))) : w.heap.size ≤ gb113)); have n3_ := am ((by rw [hg]; exact (below_size (by repeat (first | (with_reducible first | exact HB.out | apply bal | apply pdn | apply bd1) | exact HB.out))) : w.heap.size ≤ gb113)); clear HB; have HB := n0_; have BK113 := n1_; have GW113 := n2_; have GE113 := n3_; clear n0_ n1_ n2_ n3_; clear hb hbox hg))
   have n0_ := am (kdr BK113.out)
   have n1_ := am (bd1 HB.out)
   clear BK113
   clear HB
   have BK113 := n0_
   have HB := n1_
   clear n0_ n1_
   refine start_ (n := 9) (S := fun w' => w'.cell? ⟨gb113, 0, none⟩ = some (.int .i64 a2_0) ∧ w'.cell? ⟨gb113, 1, none⟩ = some (.int .i64 a2_1) ∧ w'.cell? ⟨gb113, 2, none⟩ = some (.string a2_2)) (ds := []) #[false, false, false, false, false, false, false, false, false] (by kernel_rfl) rfl rfl ⟨(kce BK113.out 0).trans rfl, (kce BK113.out 1).trans rfl, (kce BK113.out 2).trans rfl⟩ (fun hHeld => ?_); refine with_tabW impl_ApplyOp.tab1 impl_ApplyOp.bits1 (fun HT_ HW_ => ?_)
   generalize w13.drew = w14 at BK113 HB hHeld ⊢
   refine take_ (i := 1) (N := some 9) (v := ?_) (a' := ?_) #[false, true, false, false, false, false, false, false, false] rfl rfl (take_ofW HT_.out HW_.out (by kernel_rfl)) (fun _ _ _ h => h) (Or.inl ⟨by rfl, ?_⟩) hHeld ?_ ?_
   rotate_left
   ·rintro w' ⟨s0, s1, s2⟩
    go_simp
    with_reducible rfl
   rotate_left
   ·simp only [Act.put, sit, scz, scs, i64_w, i32_w]
    rfl
   refine one_ (i := 0) (N := some 8) #[true, true, false, false, false, false, false, false, false] rfl rfl (one_of HT_.out (by kernel_rfl)) (by decide) (fun K hK => ?_)
   refine goes_ Try.func87 (by kernel_rfl) rfl #[] (by rfl) rfl rfl (by (try simp only [mta, mco, mni]); first | done | rfl | (simp only [lnd, lnt]; rfl)) ?_
   with_reducible refine (impl_plainCode.calls  t114 t115 _ A4.out).mono ?_
   rintro e w15 ⟨rfl, hb⟩
   refine ⟨_, rfl, ?_⟩
   have n0_ := am (kbb (g := gb113) (o := .cells #[.int .i64 a2_0, .int .i64 a2_1, .string a2_2] 60 (0, 0)) (by (with_reducible repeat (first | apply kdn | apply kdr | apply kal)); exact BK113.out) hb)
   have n1_ := am (below_step (by repeat (first | (with_reducible first | exact HB.out | apply bal | apply pdn | apply bd1 | refine bst ?_ GE113.out) | exact HB.out)) hb)
   clear BK113
   clear HB
   have BK113 := n0_
   have HB := n1_
   clear n0_ n1_
   refine hK.out _ _ ⟨(kce BK113.out 0).trans rfl, (kce BK113.out 1).trans rfl, (kce BK113.out 2).trans rfl⟩ (fun hHeld => ?_)
   clear hK K
   refine norm_ (a' := ?_) ?_ ?_
   rotate_left
   ·show Act.put _ (some 8) _ = _
    simp only [Act.put, sit, scz, scs, i64_w, i32_w]
    rfl
   refine one_ (i := 2) (N := some 10) #[true, true, true, false, false, false, false, false, false] rfl rfl (one_of HT_.out (by kernel_rfl)) (by decide) (fun K hK => ?_)
   refine goes_ Try.func86 (by kernel_rfl) rfl #[.agg #[.int .i64 t114, .int .i64 t115], .agg #[.int .i64 a2_0, .int .i64 a2_1, .string a2_2]] (by rfl) rfl rfl (by (try simp only [mta, mco, mni]); first | done | rfl | (simp only [lnd, lnt]; rfl)) ?_
   with_reducible refine (impl_OpOk.calls k t114 t115 a2_0 a2_1 a2_2 true _ A5.out).mono ?_
   rintro e w16 ⟨rfl, hb⟩
   refine ⟨_, rfl, ?_⟩
   have n0_ := am (kbb (g := gb113) (o := .cells #[.int .i64 a2_0, .int .i64 a2_1, .string a2_2] 60 (0, 0)) (by (with_reducible repeat (first | apply kdn | apply kdr | apply kal)); exact BK113.out) hb)
   have n1_ := am (below_step (by repeat (first | (with_reducible first | exact HB.out | apply bal | apply pdn | apply bd1 | refine bst ?_ GE113.out) | exact HB.out)) hb)
   clear BK113
   clear HB
   have BK113 := n0_
   have HB := n1_
   clear n0_ n1_
   refine hK.out _ _ ⟨(kce BK113.out 0).trans rfl, (kce BK113.out 1).trans rfl, (kce BK113.out 2).trans rfl⟩ (fun hHeld => ?_)
   clear hK K
   refine norm_ (a' := ?_) ?_ ?_
   rotate_left
   ·show Act.put _ (some 10) _ = _
    simp only [Act.put, sit, scz, scs, i64_w, i32_w]
    rfl
   refine pure_ (i := 3) (N := some 11) (v := ?_) (a' := ?_) #[true, true, true, true, false, false, false, false, false] rfl rfl (any_of HT_.out (by kernel_rfl)) (fun _ _ _ h => h) (Or.inl ⟨by rfl, ?_⟩) ?_ ?_
   rotate_left
   ·intro w'
    go_simp
    with_reducible rfl
   rotate_left
   ·simp only [Act.put, sit, scz, scs, i64_w, i32_w]
    rfl
   refine pure_ (i := 4) (N := some 12) (v := ?_) (a' := ?_) #[true, true, true, true, true, false, false, false, false] rfl rfl (any_of HT_.out (by kernel_rfl)) (fun _ _ _ h => h) (Or.inl ⟨by rfl, ?_⟩) ?_ ?_
   rotate_left
   ·intro w'
    go_simp
    with_reducible rfl
   rotate_left
   ·simp only [Act.put, sit, scz, scs, i64_w, i32_w]
    rfl
   refine pure_ (i := 5) (N := some 13) (v := ?_) (a' := ?_) #[true, true, true, true, true, true, false, false, false] rfl rfl (any_of HT_.out (by kernel_rfl)) (fun _ _ _ h => h) (Or.inl ⟨by rfl, ?_⟩) ?_ ?_
   rotate_left
   ·intro w'
    go_simp
    with_reducible rfl
   rotate_left
   ·simp only [Act.put, sit, scz, scs, i64_w, i32_w]
    rfl
   refine pure_ (i := 6) (N := some 14) (v := ?_) (a' := ?_) #[true, true, true, true, true, true, true, false, false] rfl rfl (any_of HT_.out (by kernel_rfl)) (fun _ _ _ h => h) (Or.inl ⟨by rfl, ?_⟩) ?_ ?_
   rotate_left
   ·intro w'
    go_simp
    with_reducible rfl
   rotate_left
   ·simp only [Act.put, sit, scz, scs, i64_w, i32_w]
    rfl
   refine pure_ (i := 7) (N := some 15) (v := ?_) (a' := ?_) #[true, true, true, true, true, true, true, true, false] rfl rfl (any_of HT_.out (by kernel_rfl)) (fun _ _ _ h => h) (Or.inl ⟨by rfl, ?_⟩) ?_ ?_
   rotate_left
   ·intro w'
    go_simp
    with_reducible rfl
   rotate_left
   ·simp only [Act.put, sit, scz, scs, i64_w, i32_w]
    rfl
   refine pure_ (i := 8) (N := some 16) (v := ?_) (a' := ?_) #[true, true, true, true, true, true, true, true, true] rfl rfl (any_of HT_.out (by kernel_rfl)) (fun _ _ _ h => h) (Or.inl ⟨by rfl, ?_⟩) ?_ ?_
   rotate_left
   ·intro w'
    go_simp
    with_reducible rfl
   rotate_left
   ·simp only [Act.put, sit, scz, scs, i64_w, i32_w]
    rfl
   refine done_ (done_of HT_.out (by kernel_rfl)) ?_
   have hcz17_0 : w16.cell? ⟨gb113, 0, none⟩ = some (.int .i64 a2_0) := (kce BK113.out 0).trans rfl
   have hcz17_1 : w16.cell? ⟨gb113, 1, none⟩ = some (.int .i64 a2_1) := (kce BK113.out 1).trans rfl
   have hcz17_2 : w16.cell? ⟨gb113, 2, none⟩ = some (.string a2_2) := (kce BK113.out 2).trans rfl
   have hfz17_0 := kfr BK113.out 0
   have hfz17_1 := kfr BK113.out 1
   have hfz17_2 := kfr BK113.out 2
   try go_wp2_with (first | ((with_reducible refine gate_callee (f := 96) rfl ?_); refine goesL_ (some 20) rfl rfl Try.func96 (by kernel_rfl) rfl #[.agg #[.int .i64 a2_0, .int .i64 a2_1, .string a2_2], .string a0, .bool a1] rfl (by (try simp only [mta, mco, mni]); first | done | rfl | (simp only [lnd, lnt]; rfl)) ?_; (with_reducible refine (impl_Op_apply.calls k a2_0 a2_1 a2_2 a0 a1 t117 t118 _ A12.out).mono ?_); rintro e w18 ⟨rfl, hb⟩; refine ⟨_, rfl, ?_⟩; have n0_ := am (kbb (g := gb113) (o := .cells #[.int .i64 a2_0, .int .i64 a2_1, .string a2_2] 60 (0, 0)) (by (with_reducible repeat (first | apply kdn | apply kdr | apply kal)); exact BK113.out) hb); have n1_ := am (below_step (by repeat (first | (with_reducible first | exact HB.out | apply bal | apply pdn | apply bd1 | refine bst ?_ GE113.out) | exact HB.out)) hb); clear BK113; clear HB; have BK113 := n0_; have HB := n1_; clear n0_ n1_; (try clear hb); (try clear hb2); (try clear hk); (try clear hi)))
   go_ret2
   exact ⟨by first | rfl | (simp [errW_none, errW_some] <;> rfl) | (simp [*, errW_none, errW_some] <;> rfl), by repeat (first | (with_reducible first | exact HB.out | apply bal | apply pdn | apply bd1 | refine bst ?_ GE113.out) | exact HB.out)⟩
 ·replace c6 := Bool.eq_false_iff.mpr c6
  subst c6
  have H1 : (some ((⟨#[]⟩ : ByteArray), false)) = some (r1, r2) := by rw [if_neg (show ¬ (false = true) by decide)] at H; exact H
  clear H
  have H := H1
  clear H1
  simp only [Option.some.injEq, Prod.mk.injEq] at H
  obtain ⟨rfl, rfl⟩ := H
  go_enter Try.func44, Try.ntmps44
  try go_wp2_with (first | ((with_reducible refine gate_dst (N := 5) rfl ?_); (try (refine gate_guard (by rfl) ?_; dsimp only)); refine box_event ?hg (N := 5) ?hd (cs := #[.int .i64 a2_0, .int .i64 a2_1, .string a2_2]) (t := 60) ?hr ?_; (case hd => rfl); (case hg => rfl); (case hr => first | (go_simp; done) | (go_simp; rfl)); intro gb113 hg w19 hbox hb; have n0_ := am (below_step (by repeat (first | (with_reducible first | exact HB.out | apply bal | apply pdn | apply bd1) | exact HB.out)) hb); have n1_ := am (hbox); have n2_ := am ((by rw [hg]; exact (below_size (by repeat (first | (with_reducible first | exact HB.out | apply bal | apply pdn | apply bd1) | exact HB.out))) : w.heap.size ≤ gb113)); have n3_ := am ((by rw [hg]; exact (below_size (by repeat (first | (with_reducible first | exact HB.out | apply bal | apply pdn | apply bd1) | exact HB.out))) : w.heap.size ≤ gb113)); clear HB; have HB := n0_; have BK113 := n1_; have GW113 := n2_; have GE113 := n3_; clear n0_ n1_ n2_ n3_; clear hb hbox hg))
  have n0_ := am (kdr BK113.out)
  have n1_ := am (bd1 HB.out)
  clear BK113
  clear HB
  have BK113 := n0_
  have HB := n1_
  clear n0_ n1_
  refine start_ (n := 9) (S := fun w' => w'.cell? ⟨gb113, 0, none⟩ = some (.int .i64 a2_0) ∧ w'.cell? ⟨gb113, 1, none⟩ = some (.int .i64 a2_1) ∧ w'.cell? ⟨gb113, 2, none⟩ = some (.string a2_2)) (ds := []) #[false, false, false, false, false, false, false, false, false] (by kernel_rfl) rfl rfl ⟨(kce BK113.out 0).trans rfl, (kce BK113.out 1).trans rfl, (kce BK113.out 2).trans rfl⟩ (fun hHeld => ?_); refine with_tabW impl_ApplyOp.tab1 impl_ApplyOp.bits1 (fun HT_ HW_ => ?_)
  generalize w19.drew = w20 at BK113 HB hHeld ⊢
  refine take_ (i := 1) (N := some 9) (v := ?_) (a' := ?_) #[false, true, false, false, false, false, false, false, false] rfl rfl (take_ofW HT_.out HW_.out (by kernel_rfl)) (fun _ _ _ h => h) (Or.inl ⟨by rfl, ?_⟩) hHeld ?_ ?_
  rotate_left
  ·rintro w' ⟨s0, s1, s2⟩
   go_simp
   with_reducible rfl
  rotate_left
  ·simp only [Act.put, sit, scz, scs, i64_w, i32_w]
   rfl
  refine one_ (i := 0) (N := some 8) #[true, true, false, false, false, false, false, false, false] rfl rfl (one_of HT_.out (by kernel_rfl)) (by decide) (fun K hK => ?_)
  refine goes_ Try.func87 (by kernel_rfl) rfl #[] (by rfl) rfl rfl (by (try simp only [mta, mco, mni]); first | done | rfl | (simp only [lnd, lnt]; rfl)) ?_
  with_reducible refine (impl_plainCode.calls  t114 t115 _ A4.out).mono ?_
  rintro e w21 ⟨rfl, hb⟩
  refine ⟨_, rfl, ?_⟩
  have n0_ := am (kbb (g := gb113) (o := .cells #[.int .i64 a2_0, .int .i64 a2_1, .string a2_2] 60 (0, 0)) (by (with_reducible repeat (first | apply kdn | apply kdr | apply kal)); exact BK113.out) hb)
  have n1_ := am (below_step (by repeat (first | (with_reducible first | exact HB.out | apply bal | apply pdn | apply bd1 | refine bst ?_ GE113.out) | exact HB.out)) hb)
  clear BK113
  clear HB
  have BK113 := n0_
  have HB := n1_
  clear n0_ n1_
  refine hK.out _ _ ⟨(kce BK113.out 0).trans rfl, (kce BK113.out 1).trans rfl, (kce BK113.out 2).trans rfl⟩ (fun hHeld => ?_)
  clear hK K
  refine norm_ (a' := ?_) ?_ ?_
  rotate_left
  ·show Act.put _ (some 8) _ = _
   simp only [Act.put, sit, scz, scs, i64_w, i32_w]
   rfl
  refine one_ (i := 2) (N := some 10) #[true, true, true, false, false, false, false, false, false] rfl rfl (one_of HT_.out (by kernel_rfl)) (by decide) (fun K hK => ?_)
  refine goes_ Try.func86 (by kernel_rfl) rfl #[.agg #[.int .i64 t114, .int .i64 t115], .agg #[.int .i64 a2_0, .int .i64 a2_1, .string a2_2]] (by rfl) rfl rfl (by (try simp only [mta, mco, mni]); first | done | rfl | (simp only [lnd, lnt]; rfl)) ?_
  with_reducible refine (impl_OpOk.calls k t114 t115 a2_0 a2_1 a2_2 false _ A5.out).mono ?_
  rintro e w22 ⟨rfl, hb⟩
  refine ⟨_, rfl, ?_⟩
  have n0_ := am (kbb (g := gb113) (o := .cells #[.int .i64 a2_0, .int .i64 a2_1, .string a2_2] 60 (0, 0)) (by (with_reducible repeat (first | apply kdn | apply kdr | apply kal)); exact BK113.out) hb)
  have n1_ := am (below_step (by repeat (first | (with_reducible first | exact HB.out | apply bal | apply pdn | apply bd1 | refine bst ?_ GE113.out) | exact HB.out)) hb)
  clear BK113
  clear HB
  have BK113 := n0_
  have HB := n1_
  clear n0_ n1_
  refine hK.out _ _ ⟨(kce BK113.out 0).trans rfl, (kce BK113.out 1).trans rfl, (kce BK113.out 2).trans rfl⟩ (fun hHeld => ?_)
  clear hK K
  refine norm_ (a' := ?_) ?_ ?_
  rotate_left
  ·show Act.put _ (some 10) _ = _
   simp only [Act.put, sit, scz, scs, i64_w, i32_w]
   rfl
  refine pure_ (i := 3) (N := some 11) (v := ?_) (a' := ?_) #[true, true, true, true, false, false, false, false, false] rfl rfl (any_of HT_.out (by kernel_rfl)) (fun _ _ _ h => h) (Or.inl ⟨by rfl, ?_⟩) ?_ ?_
  rotate_left
  ·intro w'
   go_simp
   with_reducible rfl
  rotate_left
  ·simp only [Act.put, sit, scz, scs, i64_w, i32_w]
   rfl
  refine pure_ (i := 4) (N := some 12) (v := ?_) (a' := ?_) #[true, true, true, true, true, false, false, false, false] rfl rfl (any_of HT_.out (by kernel_rfl)) (fun _ _ _ h => h) (Or.inl ⟨by rfl, ?_⟩) ?_ ?_
  rotate_left
  ·intro w'
   go_simp
   with_reducible rfl
  rotate_left
  ·simp only [Act.put, sit, scz, scs, i64_w, i32_w]
   rfl
  refine pure_ (i := 5) (N := some 13) (v := undef) (a' := ?_) #[true, true, true, true, true, true, false, false, false] rfl rfl (any_of HT_.out (by kernel_rfl)) (fun _ _ _ h => h) (Or.inr ⟨by rfl, rfl⟩) ?_ ?_
  rotate_left
  ·simp only [Act.put, sit, scz, scs, i64_w, i32_w]
   rfl
  refine pure_ (i := 6) (N := some 14) (v := undef) (a' := ?_) #[true, true, true, true, true, true, true, false, false] rfl rfl (any_of HT_.out (by kernel_rfl)) (fun _ _ _ h => h) (Or.inr ⟨by rfl, rfl⟩) ?_ ?_
  rotate_left
  ·simp only [Act.put, sit, scz, scs, i64_w, i32_w]
   rfl
  refine pure_ (i := 7) (N := some 15) (v := undef) (a' := ?_) #[true, true, true, true, true, true, true, true, false] rfl rfl (any_of HT_.out (by kernel_rfl)) (fun _ _ _ h => h) (Or.inr ⟨by rfl, rfl⟩) ?_ ?_
  rotate_left
  ·simp only [Act.put, sit, scz, scs, i64_w, i32_w]
   rfl
  refine pure_ (i := 8) (N := some 16) (v := ?_) (a' := ?_) #[true, true, true, true, true, true, true, true, true] rfl rfl (any_of HT_.out (by kernel_rfl)) (fun _ _ _ h => h) (Or.inl ⟨by rfl, ?_⟩) ?_ ?_
  rotate_left
  ·intro w'
   go_simp
   with_reducible rfl
  rotate_left
  ·simp only [Act.put, sit, scz, scs, i64_w, i32_w]
   rfl
  refine done_ (done_of HT_.out (by kernel_rfl)) ?_
  try go_wp2
  go_ret2
  exact ⟨by first | rfl | (simp [errW_none, errW_some] <;> rfl) | (simp [*, errW_none, errW_some] <;> rfl), by repeat (first | (with_reducible first | exact HB.out | apply bal | apply pdn | apply bd1 | refine bst ?_ GE113.out) | exact HB.out)⟩

/-- A state of type 139 at block g of W; what its slices lead to came in by w0. -/
def IsS139 (w0 W : World) (g : Nat) (f0 : List Int) (f1 : Int) (f2 : Int) : Prop := ∃ A0 c0, W.heap[g]? = some (.cells #[.slice A0 f0.length c0, .int .i64 f1, .int .u64 f2] 139 (0, 0)) ∧ w0.heap.size ≤ g ∧ Kd.C (Kd.int .u8) w0 A0 f0.length f0
theorem IsS139.grown {w0 W : World} {g : Nat} {f0 : List Int} {f1 : Int} {f2 : Int} {W1 : World} {row : Option Nat} (h : IsS139 w0 W g f0 f1 f2) (hw : W.grownBy W1 row) (hne : some g ≠ row) : IsS139 w0 W1 g f0 f1 f2 := by
 obtain ⟨A0, c0, hb, hg, hr0⟩ := h
 exact ⟨A0, c0, blk_grown hb hw hne, hg, hr0⟩
theorem IsS139.own_neN {w0 W : World} {g : Nat} {f0 : List Int} {f1 : Int} {f2 : Int} {α : Type} {d : Kd α} {e : Nat} {base : Nat} {ok : Nat → Prop} {v : Value} {xs : List α} (h : IsS139 w0 W g f0 f1 f2) (ho : Kd.N d e W base ok v xs) (ht : e ≠ 139) : some g ≠ v.ownBlock := by
 obtain ⟨A0, c0, hb, hg, hr0⟩ := h
 exact Kd.N_ne ho hb ht
theorem IsS139.fresh {w0 W : World} {g : Nat} {f0 : List Int} {f1 : Int} {f2 : Int} (h : IsS139 w0 W g f0 f1 f2) : ∀ k, W.heap.size ≤ k → k ≠ g := by
 obtain ⟨A0, c0, hb, hg, hr0⟩ := h
 exact Kd.freshB hb
theorem IsS139.kept {w0 W : World} {g : Nat} {f0 : List Int} {f1 : Int} {f2 : Int} {W1 : World} {S : Nat → Prop} (h : IsS139 w0 W g f0 f1 f2) (hk : Kept W W1 S) (hne : ¬ S g) : IsS139 w0 W1 g f0 f1 f2 := by
 obtain ⟨A0, c0, hb, hg, hr0⟩ := h
 exact ⟨A0, c0, blk_kept hb hk hne, hg, hr0⟩
theorem IsS139.below {w0 W : World} {g : Nat} {f0 : List Int} {f1 : Int} {f2 : Int} {W1 : World} (h : IsS139 w0 W g f0 f1 f2) (hw : Below W.heap.size W W1) : IsS139 w0 W1 g f0 f1 f2 := h.grown (grown_of_below hw none) (by simp)
theorem IsS139.alloc {w0 W : World} {g : Nat} {f0 : List Int} {f1 : Int} {f2 : Int} (h : IsS139 w0 W g f0 f1 f2) (o : Obj) : IsS139 w0 (W.alloc o) g f0 f1 f2 := h.below (bal (Below.refl _ _) o)
theorem IsS139.drewN {w0 W : World} {g : Nat} {f0 : List Int} {f1 : Int} {f2 : Int} (h : IsS139 w0 W g f0 f1 f2) (m : Nat) : IsS139 w0 (W.drewN m) g f0 f1 f2 := h
theorem IsS139.drew {w0 W : World} {g : Nat} {f0 : List Int} {f1 : Int} {f2 : Int} (h : IsS139 w0 W g f0 f1 f2) : IsS139 w0 W.drew g f0 f1 f2 := h
theorem IsS139.at_ {w0 W : World} {g : Nat} {f0 : List Int} {f1 : Int} {f2 : Int} {w' : World} {m : Nat} (hq : W.drewN m = w') (h : IsS139 w0 W g f0 f1 f2) : IsS139 w0 w' g f0 f1 f2 := by subst hq; exact IsS139.drewN h m
theorem IsS139.apart {w0 W : World} {g : Nat} {f0 : List Int} {f1 : Int} {f2 : Int} {α : Type} {d : Kd α} {e : Nat} {base : Nat} {ok : Nat → Prop} {v : Value} {xs : List α} (h : IsS139 w0 W g f0 f1 f2) (ho : d.R e W base ok v xs) (ht : ∀ q, q ∈ e :: d.E → q ≠ 139) : d.R e W base (fun k => ok k ∧ k ≠ g) v xs := by
 obtain ⟨A0, c0, hb, hg, hr0⟩ := h
 exact Kd.R_types ho hb ht
theorem IsS139.own_ne {w0 W : World} {g : Nat} {f0 : List Int} {f1 : Int} {f2 : Int} {α : Type} {d : Kd α} {e : Nat} {base : Nat} {ok : Nat → Prop} {v : Value} {xs : List α} (h : IsS139 w0 W g f0 f1 f2) (ho : d.R e W base ok v xs) (ht : e ≠ 139) : some g ≠ v.ownBlock := by
 obtain ⟨A0, c0, hb, hg, hr0⟩ := h
 exact Kd.R_ne ho hb ht
theorem IsS139.apartQ {w0 W : World} {g : Nat} {f0 : List Int} {f1 : Int} {f2 : Int} {α : Type} {d : Kd α} {e : Nat} {base : Nat} {ok : Nat → Prop} {v : Value} {xs : List α} (h : IsS139 w0 W g f0 f1 f2) (ho : d.Q e W base ok v xs) (ht : ∀ q, q ∈ e :: d.E → q ≠ 139) : d.Q e W base (fun k => ok k ∧ k ≠ g) v xs := by
 obtain ⟨A0, c0, hb, hg, hr0⟩ := h
 exact Kd.Q_types ho hb ht
theorem IsS139.own_neQ {w0 W : World} {g : Nat} {f0 : List Int} {f1 : Int} {f2 : Int} {α : Type} {d : Kd α} {e : Nat} {base : Nat} {ok : Nat → Prop} {v : Value} {xs : List α} (h : IsS139 w0 W g f0 f1 f2) (ho : d.Q e W base ok v xs) (ht : e ≠ 139) : some g ≠ v.ownBlock := by
 obtain ⟨A0, c0, hb, hg, hr0⟩ := h
 exact Kd.Q_ne ho hb ht
theorem IsS139.apartS {w0 W : World} {g : Nat} {f0 : List Int} {f1 : Int} {f2 : Int} {α : Type} {d : Kd α} {e : Nat} {base : Nat} {ok : Nat → Prop} {v : Value} {xs : List α} (h : IsS139 w0 W g f0 f1 f2) (ho : d.S e W base ok v xs) (ht : ∀ q, q ∈ e :: d.E → q ≠ 139) : d.S e W base (fun k => ok k ∧ k ≠ g) v xs := by
 obtain ⟨A0, c0, hb, hg, hr0⟩ := h
 exact Kd.S_types ho hb ht
theorem IsS139.own_neS {w0 W : World} {g : Nat} {f0 : List Int} {f1 : Int} {f2 : Int} {α : Type} {d : Kd α} {e : Nat} {base : Nat} {ok : Nat → Prop} {v : Value} {xs : List α} (h : IsS139 w0 W g f0 f1 f2) (ho : d.S e W base ok v xs) (ht : e ≠ 139) : some g ≠ v.ownBlock := by
 obtain ⟨A0, c0, hb, hg, hr0⟩ := h
 exact Kd.S_ne ho hb ht
theorem IsS139.lt {w0 W : World} {g : Nat} {f0 : List Int} {f1 : Int} {f2 : Int} (h : IsS139 w0 W g f0 f1 f2) : g < W.heap.size := by
 obtain ⟨A0, c0, hb, hg, hr0⟩ := h
 exact blk_lt hb
theorem IsS139.ge {w0 W : World} {g : Nat} {f0 : List Int} {f1 : Int} {f2 : Int} (h : IsS139 w0 W g f0 f1 f2) : w0.heap.size ≤ g := by
 obtain ⟨A0, c0, hb, hg, hr0⟩ := h
 exact hg
theorem IsS139.ne_blk {w0 W : World} {g : Nat} {f0 : List Int} {f1 : Int} {f2 : Int} {a : Nat} {cs : Array Value} {t : TypeId} {fr : Nat × Nat} (h : IsS139 w0 W g f0 f1 f2) (hb2 : W.heap[a]? = some (.cells cs t fr)) (ht : t ≠ 139) : g ≠ a := by
 obtain ⟨A0, c0, hb, hg, hr0⟩ := h
 rintro rfl
 rw [hb] at hb2
 injection hb2 with hb2
 injection hb2 with _ ht2
 exact ht ht2.symm
theorem IsS139.far {w0 W : World} {g : Nat} {f0 : List Int} {f1 : Int} {f2 : Int} {p : Addr} (h : IsS139 w0 W g f0 f1 f2) (hne : g ≠ p.block) (u : Value) : IsS139 w0 (W.setCell p u) g f0 f1 f2 := by
 obtain ⟨A0, c0, hb, hg, hr0⟩ := h
 exact ⟨A0, c0, blk_far hb hne u, hg, hr0⟩
theorem cellS139_0 {W : World} {g : Nat} {A0 : Option Addr} {c0 : Nat} {f0 : List Int} {f1 : Int} {f2 : Int} (h : W.heap[g]? = some (.cells #[.slice A0 f0.length c0, .int .i64 f1, .int .u64 f2] 139 (0, 0))) : W.cell? ⟨g, 0, none⟩ = some (.slice A0 f0.length c0) := (kce h 0).trans rfl
theorem cellS139_1 {W : World} {g : Nat} {A0 : Option Addr} {c0 : Nat} {f0 : List Int} {f1 : Int} {f2 : Int} (h : W.heap[g]? = some (.cells #[.slice A0 f0.length c0, .int .i64 f1, .int .u64 f2] 139 (0, 0))) : W.cell? ⟨g, 1, none⟩ = some (.int .i64 f1) := (kce h 1).trans rfl
theorem IsS139.set_1 {w0 W : World} {g : Nat} {f0 : List Int} {f1 : Int} {f2 : Int} (h : IsS139 w0 W g f0 f1 f2) (x : Int) : IsS139 w0 (W.setCell ⟨g, 1, none⟩ (.int .i64 x)) g f0 x f2 := by
 obtain ⟨A0, c0, hb, hg, hr0⟩ := h
 exact ⟨A0, c0, by simpa using blk_set hb 1 (.int .i64 x), hg, hr0⟩
theorem cellS139_2 {W : World} {g : Nat} {A0 : Option Addr} {c0 : Nat} {f0 : List Int} {f1 : Int} {f2 : Int} (h : W.heap[g]? = some (.cells #[.slice A0 f0.length c0, .int .i64 f1, .int .u64 f2] 139 (0, 0))) : W.cell? ⟨g, 2, none⟩ = some (.int .u64 f2) := (kce h 2).trans rfl
theorem IsS139.set_2 {w0 W : World} {g : Nat} {f0 : List Int} {f1 : Int} {f2 : Int} (h : IsS139 w0 W g f0 f1 f2) (x : Int) : IsS139 w0 (W.setCell ⟨g, 2, none⟩ (.int .u64 x)) g f0 f1 x := by
 obtain ⟨A0, c0, hb, hg, hr0⟩ := h
 exact ⟨A0, c0, by simpa using blk_set hb 2 (.int .u64 x), hg, hr0⟩
theorem IsS139.new (w0 W : World) (A0 : Option Addr) (c0 : Nat) (f0 : List Int) (f1 : Int) (f2 : Int) (hB : Below w0.heap.size w0 W) (hr0 : Kd.C (Kd.int .u8) w0 A0 f0.length f0) : IsS139 w0 (W.alloc (.cells #[.slice A0 f0.length c0, .int .i64 f1, .int .u64 f2] 139)) W.heap.size f0 f1 f2 := ⟨A0, c0, by simpa using heap_alloc_new W _, hB.size, hr0⟩

/-! ### spec_l00From: function 79 -/
def spec_l00From.f (l0 : List Int) : Option (List Int × Int × Int) := some (l0, 0, 0)
set_option maxHeartbeats 8000000 in
set_option maxRecDepth 100000 in
theorem spec_l00From.calls (A0 : Option Addr) (c0 : Nat) (l0 : List Int) (r1 : List Int) (r2 : Int) (r3 : Int) (w0 w : World) (hB : Below w0.heap.size w0 w) (hr0 : Kd.C (Kd.int .u8) w0 A0 l0.length l0) (hc0 : l0.length ≤ c0) (h : spec_l00From.f l0 = some (r1, r2, r3)) :
  Calls Try.prog 79 #[.slice A0 l0.length c0] w fun e w' => ∃ g_ : Nat, e = .returned (.pointer (some ⟨g_, 0, none⟩)) ∧ IsS139 w0 w' g_ r1 r2 r3 ∧ Below w0.heap.size w0 w' ∧ Below w.heap.size w w' := by
 have hu139 := Try.underlying139
 have HR0 := am hr0
 have HC0 := am hc0
 clear hr0 hc0
 have HBW := am (Below.refl w.heap.size w)
 have HW0 := am hB.size
 have HB := am hB
 clear hB
 have H : (some (l0, 0, 0)) = some (r1, r2, r3) := h
 clear h
 simp only [Option.some.injEq, Prod.mk.injEq] at H
 obtain ⟨rfl, rfl, rfl⟩ := H
 go_enter Try.func79, Try.ntmps79
 go_wp2_with (first | ((with_reducible refine gate_dst (N := 5) rfl ?_); refine box_event ?hg (N := 5) ?hd (cs := #[.slice A0 l0.length c0, .int .i64 0, .int .u64 0]) (t := 139) ?hr ?_; (case hd => rfl); (case hg => rfl); (case hr => first | (go_simp; done) | (go_simp; rfl)); intro gb119 hg w2 hbox hb; have n0_ := am (below_step HBW.out hb); have n1_ := am (below_step (by repeat (first | (with_reducible first | exact HB.out | apply bal | apply pdn | apply bd1) | exact HB.out)) hb); have n2_ := am (hbox); have n3_ := am ((by rw [hg]; exact (below_size (by repeat (first | (with_reducible first | exact HBW.out | apply bal | apply pdn | apply bd1) | exact HBW.out))) : w.heap.size ≤ gb119)); have n4_ := am ((Nat.le_trans HW0.out (by rw [hg]; exact (below_size (by repeat (first | (with_reducible first | exact HBW.out | apply bal | apply pdn | apply bd1) | exact HBW.out))) : w.heap.size ≤ gb119) : w0.heap.size ≤ gb119)); clear HBW; clear HB; have HBW := n0_; have HB := n1_; have BK119 := n2_; have GW119 := n3_; have GE119 := n4_; clear n0_ n1_ n2_ n3_ n4_; clear hb hbox hg))
 go_ret
 exact ⟨_, rfl, (show IsS139 w0 _ gb119 l0 0 0 from ⟨_, _, by (with_reducible repeat (first | apply kdn | apply kdr | apply kal)); exact BK119.out, GE119.out, HR0.out⟩), by repeat (first | (with_reducible first | exact HB.out | apply bal | apply pdn | apply bd1 | refine bst ?_ GE119.out) | exact HB.out), by repeat (first | (with_reducible first | exact HBW.out | apply bal | apply pdn | apply bd1 | refine bst ?_ GW119.out) | exact HBW.out)⟩

end Go.Proofs.Ythphhklbliambaa.MFnOpSame
