-- Written by a program of this session (wip/tools/myprint.py) over the kit's print: it is not the kit's print.
import Derived.Test.YthphhklbliambaaExtra
import Derived.Test.YthphhklbliambaaMFnExactApplyOpsx0
import Derived.Test.YthphhklbliambaaMFnExactApplyOpsx1
import Derived.Test.YthphhklbliambaaMFnExactApplyOpsx2
namespace Go.Proofs.Ythphhklbliambaa.MFnExactApplyOps
open Go.RowKit Go.Proofs.YthphhklbliambaaW.PrintWords Go.Proofs.YthphhklbliambaaW.PrintLast Go.Proofs.YthphhklbliambaaW.PrintMore
open List renaming setIfInBounds_toArray → sit, set_cons_zero → scz, set_cons_succ → scs, map_toArray → mta, map_cons → mco, map_nil → mni, length_drop → lnd, length_take → lnt
open World renaming block_lt_of_cell? → blc
attribute [local go_sem] max2_int min2_int max_two min_two max_three min_three max_four min_four   -- for this text's walks alone
set_option linter.unusedVariables false
set_option linter.unusedSimpArgs false

/-! ### spec_ApplyOps: function 46 -/
mutual
def spec_ApplyOps.j0 : Nat → ByteArray → Bool → List (S60) → Bool → Option (ByteArray × Bool)
 | 0, _, _, _, _ => none
 | k + 1, x0, x1, x2, x16 => if x16 = true then (some ((⟨#[]⟩ : ByteArray), false)) else (if x1 = true then (spec_ApplyOps.j1 k x0 x1 x2) else (spec_ApplyOps.j1 k (⟨#[]⟩ : ByteArray) x1 x2))
def spec_ApplyOps.j1 : Nat → ByteArray → Bool → List (S60) → Option (ByteArray × Bool)
 | 0, _, _, _ => none
 | k + 1, x0, x1, x2 => spec_ApplyOps.l0 k x0 x1 x2 0
def spec_ApplyOps.l0 : Nat → ByteArray → Bool → List (S60) → Int → Option (ByteArray × Bool)
 | 0, _, _, _, _ => none
 | k + 1, x0, x1, x2, x8 => if x8 < (x2.length : Int) then ((spec_l16Plain.f).bind fun bt121 => (if 0 ≤ x8 then ((spec_OpOk.f k bt121.1 bt121.2 ((rd_T60 x2 x8).f0) ((rd_T60 x2 x8).f1) ((rd_T60 x2 x8).f2)).bind fun t124 => (if t124 = true then ((spec_ApplyOp.f k x0 x1 ((rd_T60 x2 x8).f0) ((rd_T60 x2 x8).f1) ((rd_T60 x2 x8).f2)).bind fun bt126 => (spec_ApplyOps.l0 k bt126.1 bt126.2 x2 (wrap64 (x8 + 1)))) else (some ((⟨#[]⟩ : ByteArray), false)))) else (none))) else (some (x0, x1))
end
def spec_ApplyOps.f (k : Nat) (a0 : ByteArray) (a1 : Bool) (l2 : List (S60)) : Option (ByteArray × Bool) := if (l2.length : Int) > 24 then (spec_ApplyOps.j0 k a0 a1 l2 true) else (spec_ApplyOps.j0 k a0 a1 l2 (decide ((a0.size : Int) > 64)))
theorem spec_ApplyOps.mono_l : ∀ k, (∀ y0 y1 y2 y3, LeO (spec_ApplyOps.j0 k y0 y1 y2 y3) (spec_ApplyOps.j0 (k + 1) y0 y1 y2 y3)) ∧ (∀ y0 y1 y2, LeO (spec_ApplyOps.j1 k y0 y1 y2) (spec_ApplyOps.j1 (k + 1) y0 y1 y2)) ∧ (∀ y0 y1 y2 y3, LeO (spec_ApplyOps.l0 k y0 y1 y2 y3) (spec_ApplyOps.l0 (k + 1) y0 y1 y2 y3))
 | 0 => ⟨fun _ _ _ _ r h => by simp [spec_ApplyOps.j0] at h, fun _ _ _ r h => by simp [spec_ApplyOps.j1] at h, fun _ _ _ _ r h => by simp [spec_ApplyOps.l0] at h⟩
 | k + 1 => by
  obtain ⟨ih0, ih1, ih2⟩ := spec_ApplyOps.mono_l k
  refine ⟨?_, ?_, ?_⟩
  ·intro y0 y1 y2 y3
   unfold spec_ApplyOps.j0
   repeat' first
   | (with_reducible exact ih0 _ _ _ _)
   | (with_reducible exact ih1 _ _ _)
   | (with_reducible exact ih2 _ _ _ _)
   | (with_reducible exact spec_ApplyOp.mono _ _ _ _ _ _)
   | (with_reducible exact spec_OpOk.mono _ _ _ _ _ _)
   | (with_reducible exact LeO.refl _)
   | (with_reducible exact LeO.none _)
   | (with_reducible refine LeO.ite ?_ ?_)
   | (with_reducible refine LeO.bind ?_ (fun _ => ?_))
   | exact ih0 _ _ _ _
   | exact ih1 _ _ _
   | exact ih2 _ _ _ _
   | exact spec_ApplyOp.mono _ _ _ _ _ _
   | exact spec_OpOk.mono _ _ _ _ _ _
   | exact LeO.none _
   | refine LeO.ite ?_ ?_
   | refine LeO.bind ?_ (fun _ => ?_)
  ·intro y0 y1 y2
   unfold spec_ApplyOps.j1
   repeat' first
   | (with_reducible exact ih0 _ _ _ _)
   | (with_reducible exact ih1 _ _ _)
   | (with_reducible exact ih2 _ _ _ _)
   | (with_reducible exact spec_ApplyOp.mono _ _ _ _ _ _)
   | (with_reducible exact spec_OpOk.mono _ _ _ _ _ _)
   | (with_reducible exact LeO.refl _)
   | (with_reducible exact LeO.none _)
   | (with_reducible refine LeO.ite ?_ ?_)
   | (with_reducible refine LeO.bind ?_ (fun _ => ?_))
   | exact ih0 _ _ _ _
   | exact ih1 _ _ _
   | exact ih2 _ _ _ _
   | exact spec_ApplyOp.mono _ _ _ _ _ _
   | exact spec_OpOk.mono _ _ _ _ _ _
   | exact LeO.none _
   | refine LeO.ite ?_ ?_
   | refine LeO.bind ?_ (fun _ => ?_)
  ·intro y0 y1 y2 y3
   unfold spec_ApplyOps.l0
   repeat' first
   | (with_reducible exact ih0 _ _ _ _)
   | (with_reducible exact ih1 _ _ _)
   | (with_reducible exact ih2 _ _ _ _)
   | (with_reducible exact spec_ApplyOp.mono _ _ _ _ _ _)
   | (with_reducible exact spec_OpOk.mono _ _ _ _ _ _)
   | (with_reducible exact LeO.refl _)
   | (with_reducible exact LeO.none _)
   | (with_reducible refine LeO.ite ?_ ?_)
   | (with_reducible refine LeO.bind ?_ (fun _ => ?_))
   | exact ih0 _ _ _ _
   | exact ih1 _ _ _
   | exact ih2 _ _ _ _
   | exact spec_ApplyOp.mono _ _ _ _ _ _
   | exact spec_OpOk.mono _ _ _ _ _ _
   | exact LeO.none _
   | refine LeO.ite ?_ ?_
   | refine LeO.bind ?_ (fun _ => ?_)
theorem spec_ApplyOps.mono : ∀ a0 a1 a2 k, LeO (spec_ApplyOps.f k a0 a1 a2) (spec_ApplyOps.f (k + 1) a0 a1 a2) := by
 intro a0 a1 a2 k
 obtain ⟨ih0, ih1, ih2⟩ := spec_ApplyOps.mono_l k
 unfold spec_ApplyOps.f
 repeat' first
   | (with_reducible exact ih0 _ _ _ _)
   | (with_reducible exact ih1 _ _ _)
   | (with_reducible exact ih2 _ _ _ _)
   | (with_reducible exact spec_ApplyOp.mono _ _ _ _ _ _)
   | (with_reducible exact spec_OpOk.mono _ _ _ _ _ _)
   | (with_reducible exact LeO.refl _)
   | (with_reducible exact LeO.none _)
   | (with_reducible refine LeO.ite ?_ ?_)
   | (with_reducible refine LeO.bind ?_ (fun _ => ?_))
   | exact ih0 _ _ _ _
   | exact ih1 _ _ _
   | exact ih2 _ _ _ _
   | exact spec_ApplyOp.mono _ _ _ _ _ _
   | exact spec_OpOk.mono _ _ _ _ _ _
   | exact LeO.none _
   | refine LeO.ite ?_ ?_
   | refine LeO.bind ?_ (fun _ => ?_)
set_option maxHeartbeats 8000000 in
set_option maxRecDepth 100000 in
theorem spec_ApplyOps.calls (k : Nat) (a0 : ByteArray) (a1 : Bool) (A2 : Option Addr) (c2 : Nat) (l2 : List (S60)) (r1 : ByteArray) (r2 : Bool) (w : World) (hr2 : Kd.C k60 w A2 l2.length l2) (hc2 : l2.length ≤ c2) (h : spec_ApplyOps.f k a0 a1 l2 = some (r1, r2)) :
  Calls Try.prog 46 #[.string a0, .bool a1, .slice A2 l2.length c2] w fun e w' => e = .returned (.tuple #[.string r1, .bool r2]) ∧ Below w.heap.size w w' := by
 have hu60 := Try.underlying60
 have HR2 := am hr2
 have HC2 := am hc2
 clear hr2 hc2
 have HB := am (Below.refl w.heap.size w)
 have H : (if (l2.length : Int) > 24 then (spec_ApplyOps.j0 k a0 a1 l2 true) else (spec_ApplyOps.j0 k a0 a1 l2 (decide ((a0.size : Int) > 64)))) = some (r1, r2) := h
 clear h
 have HC4 := am H
 clear H
 go_enter Try.func46, Try.ntmps46
 go_upto_region 1 with (fail)
 go_cut [16] (fun v16 wc => ∃ (kq : Nat) (x16_3 : Bool), v16 = .bool x16_3 ∧ Aside0 (spec_ApplyOps.j0 kq a0 a1 l2 x16_3 = some (r1, r2)) ∧ Aside0 (kq ≤ k) ∧ Aside0 (Below w.heap.size w wc))
 case first =>
  have H := HC4.out
  clear HC4
  by_cases c5 : (l2.length : Int) > 24
  ·rw [if_pos c5] at H
   have c5b0 : decide (24 < (l2.length : Int)) = true := decide_eq_true c5
   have c5b1 : decide (24 < l2.length) = true := decide_eq_true (by omega)
   clear c5
   (first | rw [c5b0] | (simp only [i64_w, i32_w]; rw [c5b0]) | skip)
   have H' := am H
   clear H
   go_wp2
   go_meet
   case rel => exact ⟨_, (true), (by first | rfl | (simp; done) | (simp [*]; done)), H', ⟨by first | omega | exact Nat.le_refl _⟩, ⟨by repeat (first | (with_reducible first | exact HB.out | apply bal | apply pdn | apply bd1) | exact HB.out)⟩⟩
  ·rw [if_neg c5] at H
   have c5b0 : decide (24 < (l2.length : Int)) = false := decide_eq_false c5
   have c5b1 : decide (24 < l2.length) = false := decide_eq_false (by omega)
   clear c5
   (first | rw [c5b0] | (simp only [i64_w, i32_w]; rw [c5b0]) | skip)
   have H' := am H
   clear H
   go_wp2
   go_meet
   case rel => exact ⟨_, (decide ((a0.size : Int) > 64)), (by first | rfl | (simp; done) | (simp [*]; done)), H', ⟨by first | omega | exact Nat.le_refl _⟩, ⟨by repeat (first | (with_reducible first | exact HB.out | apply bal | apply pdn | apply bd1) | exact HB.out)⟩⟩
 case rest =>
  clear HC4
  obtain ⟨kq, x16_3, rfl, HA, HJ3, HB⟩ := hcut
  cases kq with
  | zero => exact absurd HA.out (by simp [spec_ApplyOps.j0])
  | succ kj3 =>
   have H := HA.out
   clear HA
   simp only [spec_ApplyOps.j0] at H
   by_cases c6 : x16_3 = true
   ·subst c6
    have H1 : (some ((⟨#[]⟩ : ByteArray), false)) = some (r1, r2) := by rw [if_pos rfl] at H; exact H
    clear H
    have H := H1
    clear H1
    simp only [Option.some.injEq, Prod.mk.injEq] at H
    obtain ⟨rfl, rfl⟩ := H
    go_wp2
    go_ret2
    exact ⟨by first | rfl | (simp [errW_none, errW_some] <;> rfl) | (simp [*, errW_none, errW_some] <;> rfl), by repeat (first | (with_reducible first | exact HB.out | apply bal | apply pdn | apply bd1) | exact HB.out)⟩
   ·replace c6 := Bool.eq_false_iff.mpr c6
    subst c6
    have H1 : (if a1 = true then (spec_ApplyOps.j1 kj3 a0 a1 l2) else (spec_ApplyOps.j1 kj3 (⟨#[]⟩ : ByteArray) a1 l2)) = some (r1, r2) := by rw [if_neg (show ¬ (false = true) by decide)] at H; exact H
    clear H
    have H := H1
    clear H1
    have HC7 := am H
    clear H
    go_upto_if 18 with (fail)
    go_cut [0] (fun v0 wc => ∃ (kq : Nat) (x0_6 : ByteArray), v0 = .string x0_6 ∧ Aside0 (spec_ApplyOps.j1 kq x0_6 a1 l2 = some (r1, r2)) ∧ Aside0 (kq ≤ kj3) ∧ Aside0 (Below w.heap.size w wc))
    case first =>
     have H := HC7.out
     clear HC7
     by_cases c8 : a1 = true
     ·subst c8
      have H1 : (spec_ApplyOps.j1 kj3 a0 true l2) = some (r1, r2) := by rw [if_pos rfl] at H; exact H
      clear H
      have H := H1
      clear H1
      have H' := am H
      clear H
      go_wp2
      go_meet
      case rel => exact ⟨_, (a0), (by first | rfl | (simp; done) | (simp [*]; done)), H', ⟨by have := HJ3.out; first | omega | exact Nat.le_refl _⟩, ⟨by repeat (first | (with_reducible first | exact HB.out | apply bal | apply pdn | apply bd1) | exact HB.out)⟩⟩
     ·replace c8 := Bool.eq_false_iff.mpr c8
      subst c8
      have H1 : (spec_ApplyOps.j1 kj3 (⟨#[]⟩ : ByteArray) false l2) = some (r1, r2) := by rw [if_neg (show ¬ (false = true) by decide)] at H; exact H
      clear H
      have H := H1
      clear H1
      have H' := am H
      clear H
      go_wp2
      go_meet
      case rel => exact ⟨_, ((⟨#[]⟩ : ByteArray)), (by first | rfl | (simp; done) | (simp [*]; done)), H', ⟨by have := HJ3.out; first | omega | exact Nat.le_refl _⟩, ⟨by repeat (first | (with_reducible first | exact HB.out | apply bal | apply pdn | apply bd1) | exact HB.out)⟩⟩
    case rest =>
     clear HC7
     obtain ⟨kq, x0_6, rfl, HA, HJ6, HB⟩ := hcut
     cases kq with
     | zero => exact absurd HA.out (by simp [spec_ApplyOps.j1])
     | succ kj6 =>
      have H := HA.out
      clear HA
      simp only [spec_ApplyOps.j1] at H
      have H' := am H
      clear H
      go_wp2
      go_loopg [0, 1, 8] kj6 (fun kq v0 v1 v8 w' => ∃ (x0_3 : ByteArray) (x1_3 : Bool) (x8_3 : Int), v0 = .string x0_3 ∧ v1 = .bool x1_3 ∧ v8 = .int .i64 x8_3 ∧ Aside0 (spec_ApplyOps.l0 kq x0_3 x1_3 l2 x8_3 = some (r1, r2)) ∧ Aside0 (kq ≤ kj6) ∧ Aside0 (Below w.heap.size w w'))
      case atStart => exact ⟨(x0_6), (a1), (0), (by first | rfl | (simp; done) | (simp [*]; done)), (by first | rfl | (simp; done) | (simp [*]; done)), (by first | rfl | (simp; done) | (simp [*]; done)), H', ⟨Nat.le_refl _⟩, ⟨by repeat (first | (with_reducible first | exact HB.out | apply bal | apply pdn | apply bd1) | exact HB.out)⟩⟩
      case round =>
       clear H'
       obtain ⟨x0_3, x1_3, x8_3, rfl, rfl, rfl, HA, HK3, HB⟩ := hrel
       cases gk with
       | zero => exact absurd HA.out (by simp [spec_ApplyOps.l0])
       | succ k3 =>
        have H := HA.out
        clear HA
        simp only [spec_ApplyOps.l0] at H
        by_cases c9 : x8_3 < (l2.length : Int)
        ·rw [if_pos c9] at H
         have c9b0 : decide (x8_3 < (l2.length : Int)) = true := decide_eq_true c9
         clear c9
         replace H := Option.bind_eq_some_iff.mp H
         obtain ⟨⟨t121, t122⟩, A100, H⟩ := H
         replace H : (if 0 ≤ x8_3 then ((spec_OpOk.f k3 t121 t122 ((rd_T60 l2 x8_3).f0) ((rd_T60 l2 x8_3).f1) ((rd_T60 l2 x8_3).f2)).bind fun t124 => (if t124 = true then ((spec_ApplyOp.f k3 x0_3 x1_3 ((rd_T60 l2 x8_3).f0) ((rd_T60 l2 x8_3).f1) ((rd_T60 l2 x8_3).f2)).bind fun bt126 => (spec_ApplyOps.l0 k3 bt126.1 bt126.2 l2 (wrap64 (x8_3 + 1)))) else (some ((⟨#[]⟩ : ByteArray), false)))) else (none)) = some (r1, r2) := H
         have A10 := am A100
         clear A100
         by_cases c11 : 0 ≤ x8_3
         ·rw [if_pos c11] at H
          have c11b0 : decide (0 ≤ x8_3) = true := decide_eq_true c11
          clear c11
          replace H := Option.bind_eq_some_iff.mp H
          obtain ⟨t124, A120, H⟩ := H
          replace H : (if t124 = true then ((spec_ApplyOp.f k3 x0_3 x1_3 ((rd_T60 l2 x8_3).f0) ((rd_T60 l2 x8_3).f1) ((rd_T60 l2 x8_3).f2)).bind fun bt126 => (spec_ApplyOps.l0 k3 bt126.1 bt126.2 l2 (wrap64 (x8_3 + 1)))) else (some ((⟨#[]⟩ : ByteArray), false))) = some (r1, r2) := H
          have A12 := am A120
          clear A120
          by_cases c13 : t124 = true
          ·subst c13
           have H1 : ((spec_ApplyOp.f k3 x0_3 x1_3 ((rd_T60 l2 x8_3).f0) ((rd_T60 l2 x8_3).f1) ((rd_T60 l2 x8_3).f2)).bind fun bt126 => (spec_ApplyOps.l0 k3 bt126.1 bt126.2 l2 (wrap64 (x8_3 + 1)))) = some (r1, r2) := by rw [if_pos rfl] at H; exact H
           clear H
           have H := H1
           clear H1
           replace H := Option.bind_eq_some_iff.mp H
           obtain ⟨⟨t126, t127⟩, A140, H⟩ := H
           replace H : (spec_ApplyOps.l0 k3 t126 t127 l2 (wrap64 (x8_3 + 1))) = some (r1, r2) := H
           have A14 := am A140
           clear A140
           have H' := am H
           clear H
           try go_wp2
           have n0_ := am (bd1 HB.out)
           clear HB
           have HB := n0_
           clear n0_
           have p123 : 0 ≤ (x8_3 : Int) := of_decide_eq_true (by first | (with_reducible assumption) | assumption)
           have q123 : x8_3 < (l2.length : Int) := of_decide_eq_true (by first | (with_reducible assumption) | assumption)
           obtain ⟨ad123, e123, hx123_0, hx123_1, hx123_2⟩ := at_T60 HR2.out x8_3 p123 q123
           have hw123_2 := hx123_2
           have hw123_1 := hx123_1
           have hw123_0 := hx123_0
           cases e123
           replace hx123_0 := (HB.out.cell (blc w _ hx123_0)).trans hx123_0
           replace hx123_1 := (HB.out.cell (blc w _ hx123_1)).trans hx123_1
           replace hx123_2 := (HB.out.cell (blc w _ hx123_2)).trans hx123_2
           replace p123 := eq_true p123
           replace q123 := eq_true q123
           refine start_ (n := 7) (S := fun w' => w'.cell? (ad123.add ((x8_3).toNat * 3)) = some (.int .i64 ((rd_T60 l2 x8_3).f0)) ∧ w'.cell? ⟨(ad123.add ((x8_3).toNat * 3)).block, (ad123.add ((x8_3).toNat * 3)).off + 1, none⟩ = some (.int .i64 ((rd_T60 l2 x8_3).f1)) ∧ w'.cell? ⟨(ad123.add ((x8_3).toNat * 3)).block, (ad123.add ((x8_3).toNat * 3)).off + 2, none⟩ = some (.string ((rd_T60 l2 x8_3).f2))) (ds := []) #[false, false, false, false, false, false, false] (by kernel_rfl) rfl rfl ⟨((HB.out.cell (blc w _ hw123_0)).trans hw123_0), ((HB.out.cell (blc w _ hw123_1)).trans hw123_1), ((HB.out.cell (blc w _ hw123_2)).trans hw123_2)⟩ (fun hHeld => ?_)
           generalize wr.drew = w15 at HB hx123_0 hx123_1 hx123_2 hHeld ⊢
           refine pure_ (i := 1) (N := some 26) (v := ?_) (a' := ?_) #[false, true, false, false, false, false, false] rfl rfl (by kernel_rfl) (fun _ _ _ h => h) (Or.inl ⟨by rfl, ?_⟩) ?_ ?_
           rotate_left
           ·intro w'
            go_simp
            with_reducible rfl
           rotate_left
           ·simp only [Act.put, sit, scz, scs, i64_w, i32_w]
            rfl
           refine pure_ (i := 2) (N := some 27) (v := ?_) (a' := ?_) #[false, true, true, false, false, false, false] rfl rfl (by kernel_rfl) (fun _ _ _ h => h) (Or.inl ⟨by rfl, ?_⟩) ?_ ?_
           rotate_left
           ·intro w'
            go_simp
            with_reducible rfl
           rotate_left
           ·simp only [Act.put, sit, scz, scs, i64_w, i32_w]
            rfl
           refine pure_ (i := 3) (N := some 28) (v := ?_) (a' := ?_) #[false, true, true, true, false, false, false] rfl rfl (by kernel_rfl) (fun _ _ _ h => h) (Or.inl ⟨by rfl, ?_⟩) ?_ ?_
           rotate_left
           ·intro w'
            go_simp
            with_reducible rfl
           rotate_left
           ·simp only [Act.put, sit, scz, scs, i64_w, i32_w]
            rfl
           refine take_ (i := 4) (N := some 29) (v := ?_) (a' := ?_) #[false, true, true, true, true, false, false] rfl rfl (by kernel_rfl) (fun _ _ _ h => h) (Or.inl ⟨by rfl, ?_⟩) hHeld ?_ ?_
           rotate_left
           ·rintro w' ⟨s0, s1, s2⟩
            go_simp
            with_reducible rfl
           rotate_left
           ·simp only [Act.put, sit, scz, scs, i64_w, i32_w]
            rfl
           refine one_ (i := 0) (N := some 25) #[true, true, true, true, true, false, false] rfl rfl (by kernel_rfl) (by decide) (fun K hK => ?_)
           refine goes_ Try.func83 (by kernel_rfl) rfl #[] (by rfl) rfl rfl (by (try simp only [mta, mco, mni]); first | done | rfl | (simp only [lnd, lnt]; rfl)) ?_
           with_reducible refine (spec_l16Plain.calls  t121 t122 _ A10.out).mono ?_
           rintro e w16 ⟨rfl, hb⟩
           refine ⟨_, rfl, ?_⟩
           have n0_ := am (below_step (by repeat (first | (with_reducible first | exact HB.out | apply bal | apply pdn | apply bd1) | exact HB.out)) hb)
           clear HB
           have HB := n0_
           clear n0_
           refine hK.out _ _ ⟨((HB.out.cell (blc w _ hw123_0)).trans hw123_0), ((HB.out.cell (blc w _ hw123_1)).trans hw123_1), ((HB.out.cell (blc w _ hw123_2)).trans hw123_2)⟩ (fun hHeld => ?_)
           clear hK K
           refine norm_ (a' := ?_) ?_ ?_
           rotate_left
           ·show Act.put _ (some 25) _ = _
            simp only [Act.put, sit, scz, scs, i64_w, i32_w]
            rfl
           refine one_ (i := 5) (N := some 30) #[true, true, true, true, true, true, false] rfl rfl (by kernel_rfl) (by decide) (fun K hK => ?_)
           refine goes_ Try.func53 (by kernel_rfl) rfl #[.agg #[.int .i64 t121, .int .i64 t122], .agg #[.int .i64 ((rd_T60 l2 x8_3).f0), .int .i64 ((rd_T60 l2 x8_3).f1), .string ((rd_T60 l2 x8_3).f2)]] (by rfl) rfl rfl (by (try simp only [mta, mco, mni]); first | done | rfl | (simp only [lnd, lnt]; rfl)) ?_
           with_reducible refine (spec_OpOk.calls k3 t121 t122 ((rd_T60 l2 x8_3).f0) ((rd_T60 l2 x8_3).f1) ((rd_T60 l2 x8_3).f2) true _ A12.out).mono ?_
           rintro e w17 ⟨rfl, hb⟩
           refine ⟨_, rfl, ?_⟩
           have n0_ := am (below_step (by repeat (first | (with_reducible first | exact HB.out | apply bal | apply pdn | apply bd1) | exact HB.out)) hb)
           clear HB
           have HB := n0_
           clear n0_
           refine hK.out _ _ ⟨((HB.out.cell (blc w _ hw123_0)).trans hw123_0), ((HB.out.cell (blc w _ hw123_1)).trans hw123_1), ((HB.out.cell (blc w _ hw123_2)).trans hw123_2)⟩ (fun hHeld => ?_)
           clear hK K
           refine norm_ (a' := ?_) ?_ ?_
           rotate_left
           ·show Act.put _ (some 30) _ = _
            simp only [Act.put, sit, scz, scs, i64_w, i32_w]
            rfl
           refine pure_ (i := 6) (N := some 31) (v := ?_) (a' := ?_) #[true, true, true, true, true, true, true] rfl rfl (by kernel_rfl) (fun _ _ _ h => h) (Or.inl ⟨by rfl, ?_⟩) ?_ ?_
           rotate_left
           ·intro w'
            go_simp
            with_reducible rfl
           rotate_left
           ·simp only [Act.put, sit, scz, scs, i64_w, i32_w]
            rfl
           refine done_ (by kernel_rfl) ?_
           have p125 : 0 ≤ (x8_3 : Int) := of_decide_eq_true (by first | (with_reducible assumption) | assumption)
           have q125 : x8_3 < (l2.length : Int) := of_decide_eq_true (by first | (with_reducible assumption) | assumption)
           obtain ⟨ad125, e125, hx125_0, hx125_1, hx125_2⟩ := at_T60 HR2.out x8_3 p125 q125
           obtain rfl : ad123 = ad125 := (by injection e125)
           replace hx125_0 := (HB.out.cell (blc w _ hx125_0)).trans hx125_0
           replace hx125_1 := (HB.out.cell (blc w _ hx125_1)).trans hx125_1
           replace hx125_2 := (HB.out.cell (blc w _ hx125_2)).trans hx125_2
           replace p125 := eq_true p125
           replace q125 := eq_true q125
           try go_wp2_with (first | ((with_reducible refine gate_callee (f := 43) rfl ?_); refine goesL_ (some 39) rfl rfl Try.func43 (by kernel_rfl) rfl #[.string x0_3, .bool x1_3, .agg #[.int .i64 ((rd_T60 l2 x8_3).f0), .int .i64 ((rd_T60 l2 x8_3).f1), .string ((rd_T60 l2 x8_3).f2)]] rfl (by (try simp only [mta, mco, mni]); first | done | rfl | (simp only [lnd, lnt]; rfl)) ?_; (with_reducible refine (spec_ApplyOp.calls k3 x0_3 x1_3 ((rd_T60 l2 x8_3).f0) ((rd_T60 l2 x8_3).f1) ((rd_T60 l2 x8_3).f2) t126 t127 _ A14.out).mono ?_); rintro e w18 ⟨rfl, hb⟩; refine ⟨_, rfl, ?_⟩; have n0_ := am (below_step (by repeat (first | (with_reducible first | exact HB.out | apply bal | apply pdn | apply bd1) | exact HB.out)) hb); clear HB; have HB := n0_; clear n0_; (try clear hb); (try clear hb2); (try clear hk); (try clear hi)))
           go_roundg k3
           case measure => have := HJ3.out; have := HJ6.out; have := HK3.out; omega
           case rel => exact ⟨(t126), (t127), (wrap64 (x8_3 + 1)), (by first | rfl | (simp; done) | (simp [*]; done)), (by first | rfl | (simp; done) | (simp [*]; done)), (by first | rfl | (simp; done) | (simp [*]; done)), H', ⟨by have := HJ3.out; have := HJ6.out; have := HK3.out; omega⟩, ⟨by repeat (first | (with_reducible first | exact HB.out | apply bal | apply pdn | apply bd1) | exact HB.out)⟩⟩
          ·replace c13 := Bool.eq_false_iff.mpr c13
           subst c13
           have H1 : (some ((⟨#[]⟩ : ByteArray), false)) = some (r1, r2) := by rw [if_neg (show ¬ (false = true) by decide)] at H; exact H
           clear H
           have H := H1
           clear H1
           simp only [Option.some.injEq, Prod.mk.injEq] at H
           obtain ⟨rfl, rfl⟩ := H
           try go_wp2
           have n0_ := am (bd1 HB.out)
           clear HB
           have HB := n0_
           clear n0_
           have p123 : 0 ≤ (x8_3 : Int) := of_decide_eq_true (by first | (with_reducible assumption) | assumption)
           have q123 : x8_3 < (l2.length : Int) := of_decide_eq_true (by first | (with_reducible assumption) | assumption)
           obtain ⟨ad123, e123, hx123_0, hx123_1, hx123_2⟩ := at_T60 HR2.out x8_3 p123 q123
           have hw123_2 := hx123_2
           have hw123_1 := hx123_1
           have hw123_0 := hx123_0
           cases e123
           replace hx123_0 := (HB.out.cell (blc w _ hx123_0)).trans hx123_0
           replace hx123_1 := (HB.out.cell (blc w _ hx123_1)).trans hx123_1
           replace hx123_2 := (HB.out.cell (blc w _ hx123_2)).trans hx123_2
           replace p123 := eq_true p123
           replace q123 := eq_true q123
           refine start_ (n := 7) (S := fun w' => w'.cell? (ad123.add ((x8_3).toNat * 3)) = some (.int .i64 ((rd_T60 l2 x8_3).f0)) ∧ w'.cell? ⟨(ad123.add ((x8_3).toNat * 3)).block, (ad123.add ((x8_3).toNat * 3)).off + 1, none⟩ = some (.int .i64 ((rd_T60 l2 x8_3).f1)) ∧ w'.cell? ⟨(ad123.add ((x8_3).toNat * 3)).block, (ad123.add ((x8_3).toNat * 3)).off + 2, none⟩ = some (.string ((rd_T60 l2 x8_3).f2))) (ds := []) #[false, false, false, false, false, false, false] (by kernel_rfl) rfl rfl ⟨((HB.out.cell (blc w _ hw123_0)).trans hw123_0), ((HB.out.cell (blc w _ hw123_1)).trans hw123_1), ((HB.out.cell (blc w _ hw123_2)).trans hw123_2)⟩ (fun hHeld => ?_)
           generalize wr.drew = w19 at HB hx123_0 hx123_1 hx123_2 hHeld ⊢
           refine pure_ (i := 1) (N := some 26) (v := ?_) (a' := ?_) #[false, true, false, false, false, false, false] rfl rfl (by kernel_rfl) (fun _ _ _ h => h) (Or.inl ⟨by rfl, ?_⟩) ?_ ?_
           rotate_left
           ·intro w'
            go_simp
            with_reducible rfl
           rotate_left
           ·simp only [Act.put, sit, scz, scs, i64_w, i32_w]
            rfl
           refine pure_ (i := 2) (N := some 27) (v := ?_) (a' := ?_) #[false, true, true, false, false, false, false] rfl rfl (by kernel_rfl) (fun _ _ _ h => h) (Or.inl ⟨by rfl, ?_⟩) ?_ ?_
           rotate_left
           ·intro w'
            go_simp
            with_reducible rfl
           rotate_left
           ·simp only [Act.put, sit, scz, scs, i64_w, i32_w]
            rfl
           refine pure_ (i := 3) (N := some 28) (v := ?_) (a' := ?_) #[false, true, true, true, false, false, false] rfl rfl (by kernel_rfl) (fun _ _ _ h => h) (Or.inl ⟨by rfl, ?_⟩) ?_ ?_
           rotate_left
           ·intro w'
            go_simp
            with_reducible rfl
           rotate_left
           ·simp only [Act.put, sit, scz, scs, i64_w, i32_w]
            rfl
           refine take_ (i := 4) (N := some 29) (v := ?_) (a' := ?_) #[false, true, true, true, true, false, false] rfl rfl (by kernel_rfl) (fun _ _ _ h => h) (Or.inl ⟨by rfl, ?_⟩) hHeld ?_ ?_
           rotate_left
           ·rintro w' ⟨s0, s1, s2⟩
            go_simp
            with_reducible rfl
           rotate_left
           ·simp only [Act.put, sit, scz, scs, i64_w, i32_w]
            rfl
           refine one_ (i := 0) (N := some 25) #[true, true, true, true, true, false, false] rfl rfl (by kernel_rfl) (by decide) (fun K hK => ?_)
           refine goes_ Try.func83 (by kernel_rfl) rfl #[] (by rfl) rfl rfl (by (try simp only [mta, mco, mni]); first | done | rfl | (simp only [lnd, lnt]; rfl)) ?_
           with_reducible refine (spec_l16Plain.calls  t121 t122 _ A10.out).mono ?_
           rintro e w20 ⟨rfl, hb⟩
           refine ⟨_, rfl, ?_⟩
           have n0_ := am (below_step (by repeat (first | (with_reducible first | exact HB.out | apply bal | apply pdn | apply bd1) | exact HB.out)) hb)
           clear HB
           have HB := n0_
           clear n0_
           refine hK.out _ _ ⟨((HB.out.cell (blc w _ hw123_0)).trans hw123_0), ((HB.out.cell (blc w _ hw123_1)).trans hw123_1), ((HB.out.cell (blc w _ hw123_2)).trans hw123_2)⟩ (fun hHeld => ?_)
           clear hK K
           refine norm_ (a' := ?_) ?_ ?_
           rotate_left
           ·show Act.put _ (some 25) _ = _
            simp only [Act.put, sit, scz, scs, i64_w, i32_w]
            rfl
           refine one_ (i := 5) (N := some 30) #[true, true, true, true, true, true, false] rfl rfl (by kernel_rfl) (by decide) (fun K hK => ?_)
           refine goes_ Try.func53 (by kernel_rfl) rfl #[.agg #[.int .i64 t121, .int .i64 t122], .agg #[.int .i64 ((rd_T60 l2 x8_3).f0), .int .i64 ((rd_T60 l2 x8_3).f1), .string ((rd_T60 l2 x8_3).f2)]] (by rfl) rfl rfl (by (try simp only [mta, mco, mni]); first | done | rfl | (simp only [lnd, lnt]; rfl)) ?_
           with_reducible refine (spec_OpOk.calls k3 t121 t122 ((rd_T60 l2 x8_3).f0) ((rd_T60 l2 x8_3).f1) ((rd_T60 l2 x8_3).f2) false _ A12.out).mono ?_
           rintro e w21 ⟨rfl, hb⟩
           refine ⟨_, rfl, ?_⟩
           have n0_ := am (below_step (by repeat (first | (with_reducible first | exact HB.out | apply bal | apply pdn | apply bd1) | exact HB.out)) hb)
           clear HB
           have HB := n0_
           clear n0_
           refine hK.out _ _ ⟨((HB.out.cell (blc w _ hw123_0)).trans hw123_0), ((HB.out.cell (blc w _ hw123_1)).trans hw123_1), ((HB.out.cell (blc w _ hw123_2)).trans hw123_2)⟩ (fun hHeld => ?_)
           clear hK K
           refine norm_ (a' := ?_) ?_ ?_
           rotate_left
           ·show Act.put _ (some 30) _ = _
            simp only [Act.put, sit, scz, scs, i64_w, i32_w]
            rfl
           refine pure_ (i := 6) (N := some 31) (v := ?_) (a' := ?_) #[true, true, true, true, true, true, true] rfl rfl (by kernel_rfl) (fun _ _ _ h => h) (Or.inl ⟨by rfl, ?_⟩) ?_ ?_
           rotate_left
           ·intro w'
            go_simp
            with_reducible rfl
           rotate_left
           ·simp only [Act.put, sit, scz, scs, i64_w, i32_w]
            rfl
           refine done_ (by kernel_rfl) ?_
           try go_wp2
           go_ret2
           exact ⟨by first | rfl | (simp [errW_none, errW_some] <;> rfl) | (simp [*, errW_none, errW_some] <;> rfl), by repeat (first | (with_reducible first | exact HB.out | apply bal | apply pdn | apply bd1) | exact HB.out)⟩
         ·rw [if_neg c11] at H
          exact absurd H (by simp)
        ·rw [if_neg c9] at H
         have c9b0 : decide (x8_3 < (l2.length : Int)) = false := decide_eq_false c9
         clear c9
         simp only [Option.some.injEq, Prod.mk.injEq] at H
         obtain ⟨rfl, rfl⟩ := H
         go_wp2
         go_ret2
         exact ⟨by first | rfl | (simp [errW_none, errW_some] <;> rfl) | (simp [*, errW_none, errW_some] <;> rfl), by repeat (first | (with_reducible first | exact HB.out | apply bal | apply pdn | apply bd1) | exact HB.out)⟩

/-! ### laws_toOp: function 38 -/
def laws_toOp.f (a0_0 : Int) (a0_1 : Int) (a0_2 : ByteArray) : Option (Int × Int × ByteArray) := some (a0_0, a0_1, a0_2)
set_option maxHeartbeats 8000000 in
set_option maxRecDepth 100000 in
theorem laws_toOp.calls (a0_0 : Int) (a0_1 : Int) (a0_2 : ByteArray) (r1 : Int) (r2 : Int) (r3 : ByteArray) (w : World) (h : laws_toOp.f a0_0 a0_1 a0_2 = some (r1, r2, r3)) :
  Calls Try.prog 38 #[.agg #[.int .i64 a0_0, .int .i64 a0_1, .string a0_2]] w fun e w' => e = .returned (.agg #[.int .i64 r1, .int .i64 r2, .string r3]) ∧ Below w.heap.size w w' := by
 have hu57 := Try.underlying57
 have hu60 := Try.underlying60
 have HB := am (Below.refl w.heap.size w)
 have H : (some (a0_0, a0_1, a0_2)) = some (r1, r2, r3) := h
 clear h
 simp only [Option.some.injEq, Prod.mk.injEq] at H
 obtain ⟨rfl, rfl, rfl⟩ := H
 go_enter Try.func38, Try.ntmps38
 go_wp2_with (first | ((with_reducible refine gate_dst (N := 1) rfl ?_); refine box_event ?hg (N := 1) ?hd (cs := #[.int .i64 a0_0, .int .i64 a0_1, .string a0_2]) (t := 57) ?hr ?_; (case hd => rfl); (case hg => rfl); (case hr => first | (go_simp; done) | (go_simp; rfl)); intro gb128 hg w2 hbox hb; have n0_ := am (below_step (by repeat (first | (with_reducible first | exact HB.out | apply bal | apply pdn | apply bd1) | exact HB.out)) hb); have n1_ := am (hbox); have n2_ := am ((by rw [hg]; exact (below_size (by repeat (first | (with_reducible first | exact HB.out | apply bal | apply pdn | apply bd1) | exact HB.out))) : w.heap.size ≤ gb128)); have n3_ := am ((by rw [hg]; exact (below_size (by repeat (first | (with_reducible first | exact HB.out | apply bal | apply pdn | apply bd1) | exact HB.out))) : w.heap.size ≤ gb128)); clear HB; have HB := n0_; have BK128 := n1_; have GW128 := n2_; have GE128 := n3_; clear n0_ n1_ n2_ n3_; clear hb hbox hg) | ((with_reducible refine gate_dst (N := 2) rfl ?_); refine box_event ?hg (N := 2) ?hd (cs := #[.int .i64 0, .int .i64 0, .string (⟨#[]⟩ : ByteArray)]) (t := 60) ?hr ?_; (case hd => rfl); (case hg => rfl); (case hr => first | (go_simp; done) | (go_simp; rfl)); intro gb129 hg w3 hbox hb; have n0_ := am (kbb (g := gb128) (o := .cells #[.int .i64 a0_0, .int .i64 a0_1, .string a0_2] 57 (0, 0)) (by (with_reducible repeat (first | apply kdn | apply kdr | apply kal)); exact BK128.out) hb); have n1_ := am (below_step (by repeat (first | (with_reducible first | exact HB.out | apply bal | apply pdn | apply bd1 | refine bst ?_ GE128.out) | exact HB.out)) hb); have n2_ := am (hbox); have n3_ := am ((by rw [hg]; exact (below_size (by repeat (first | (with_reducible first | exact HB.out | apply bal | apply pdn | apply bd1 | refine bst ?_ GE128.out) | exact HB.out))) : w.heap.size ≤ gb129)); have n4_ := am ((by rw [hg]; exact (below_size (by repeat (first | (with_reducible first | exact HB.out | apply bal | apply pdn | apply bd1 | refine bst ?_ GE128.out) | exact HB.out))) : w.heap.size ≤ gb129)); have n5_ := am ((by rw [hg]; exact Nat.ne_of_lt (blk_lt (g := gb128) (o := .cells #[.int .i64 a0_0, .int .i64 a0_1, .string a0_2] 57 (0, 0)) (by (with_reducible repeat (first | apply kdn | apply kdr | apply kal)); exact BK128.out)) : gb128 ≠ gb129)); have n6_ := am ((by rw [hg]; exact Nat.ne_of_gt (blk_lt (g := gb128) (o := .cells #[.int .i64 a0_0, .int .i64 a0_1, .string a0_2] 57 (0, 0)) (by (with_reducible repeat (first | apply kdn | apply kdr | apply kal)); exact BK128.out)) : gb129 ≠ gb128)); clear BK128; clear HB; have BK128 := n0_; have HB := n1_; have BK129 := n2_; have GW129 := n3_; have GE129 := n4_; have NB128_129 := n5_; have NB129_128 := n6_; clear n0_ n1_ n2_ n3_ n4_ n5_ n6_; clear hb hbox hg) | ((with_reducible refine gate_dst (N := 3) rfl ?_); refine box_event ?hg (N := 3) ?hd (cs := #[.int .i64 0, .int .i64 0, .string (⟨#[]⟩ : ByteArray)]) (t := 60) ?hr ?_; (case hd => rfl); (case hg => rfl); (case hr => first | (go_simp; done) | (go_simp; rfl)); intro gb130 hg w4 hbox hb; have n0_ := am (kbb (g := gb128) (o := .cells #[.int .i64 a0_0, .int .i64 a0_1, .string a0_2] 57 (0, 0)) (by (with_reducible repeat (first | apply kdn | apply kdr | apply kal)); exact BK128.out) hb); have n1_ := am (kbb (g := gb129) (o := .cells #[.int .i64 0, .int .i64 0, .string (⟨#[]⟩ : ByteArray)] 60 (0, 0)) (by (with_reducible repeat (first | apply kdn | apply kdr | apply kal)); exact BK129.out) hb); have n2_ := am (below_step (by repeat (first | (with_reducible first | exact HB.out | apply bal | apply pdn | apply bd1 | refine bst ?_ GE128.out | refine bst ?_ GE129.out) | exact HB.out)) hb); have n3_ := am (hbox); have n4_ := am ((by rw [hg]; exact (below_size (by repeat (first | (with_reducible first | exact HB.out | apply bal | apply pdn | apply bd1 | refine bst ?_ GE128.out | refine bst ?_ GE129.out) | exact HB.out))) : w.heap.size ≤ gb130)); have n5_ := am ((by rw [hg]; exact (below_size (by repeat (first | (with_reducible first | exact HB.out | apply bal | apply pdn | apply bd1 | refine bst ?_ GE128.out | refine bst ?_ GE129.out) | exact HB.out))) : w.heap.size ≤ gb130)); have n6_ := am ((by rw [hg]; exact Nat.ne_of_lt (blk_lt (g := gb128) (o := .cells #[.int .i64 a0_0, .int .i64 a0_1, .string a0_2] 57 (0, 0)) (by (with_reducible repeat (first | apply kdn | apply kdr | apply kal)); exact BK128.out)) : gb128 ≠ gb130)); have n7_ := am ((by rw [hg]; exact Nat.ne_of_gt (blk_lt (g := gb128) (o := .cells #[.int .i64 a0_0, .int .i64 a0_1, .string a0_2] 57 (0, 0)) (by (with_reducible repeat (first | apply kdn | apply kdr | apply kal)); exact BK128.out)) : gb130 ≠ gb128)); have n8_ := am ((by rw [hg]; exact Nat.ne_of_lt (blk_lt (g := gb129) (o := .cells #[.int .i64 0, .int .i64 0, .string (⟨#[]⟩ : ByteArray)] 60 (0, 0)) (by (with_reducible repeat (first | apply kdn | apply kdr | apply kal)); exact BK129.out)) : gb129 ≠ gb130)); have n9_ := am ((by rw [hg]; exact Nat.ne_of_gt (blk_lt (g := gb129) (o := .cells #[.int .i64 0, .int .i64 0, .string (⟨#[]⟩ : ByteArray)] 60 (0, 0)) (by (with_reducible repeat (first | apply kdn | apply kdr | apply kal)); exact BK129.out)) : gb130 ≠ gb129)); clear BK128; clear BK129; clear HB; have BK128 := n0_; have BK129 := n1_; have HB := n2_; have BK130 := n3_; have GW130 := n4_; have GE130 := n5_; have NB128_130 := n6_; have NB130_128 := n7_; have NB129_130 := n8_; have NB130_129 := n9_; clear n0_ n1_ n2_ n3_ n4_ n5_ n6_ n7_ n8_ n9_; clear hb hbox hg; have hnb5 := NB128_129.out; have hnc5 := NB129_128.out; have hnb6 := NB128_130.out; have hnc6 := NB130_128.out; have hcz7_0 : w4.cell? ⟨gb128, 0, none⟩ = some (.int .i64 a0_0) := (kce BK128.out 0).trans rfl; have hcz7_1 : w4.cell? ⟨gb128, 1, none⟩ = some (.int .i64 a0_1) := (kce BK128.out 1).trans rfl; have hcz7_2 : w4.cell? ⟨gb128, 2, none⟩ = some (.string a0_2) := (kce BK128.out 2).trans rfl; have hfz7_0 := kfr BK128.out 0; have hfz7_1 := kfr BK128.out 1; have hfz7_2 := kfr BK128.out 2; have hnb8 := NB130_129.out; have hnc8 := NB129_130.out; have hcz9_0 : w4.cell? ⟨gb130, 0, none⟩ = some (.int .i64 0) := (kce BK130.out 0).trans rfl; have hcz9_1 : w4.cell? ⟨gb130, 1, none⟩ = some (.int .i64 0) := (kce BK130.out 1).trans rfl; have hcz9_2 : w4.cell? ⟨gb130, 2, none⟩ = some (.string (⟨#[]⟩ : ByteArray)) := (kce BK130.out 2).trans rfl; have hfz9_0 := kfr BK130.out 0; have hfz9_1 := kfr BK130.out 1; have hfz9_2 := kfr BK130.out 2; have hcz10_0 : w4.cell? ⟨gb129, 0, none⟩ = some (.int .i64 0) := (kce BK129.out 0).trans rfl; have hcz10_1 : w4.cell? ⟨gb129, 1, none⟩ = some (.int .i64 0) := (kce BK129.out 1).trans rfl; have hcz10_2 : w4.cell? ⟨gb129, 2, none⟩ = some (.string (⟨#[]⟩ : ByteArray)) := (kce BK129.out 2).trans rfl; have hfz10_0 := kfr BK129.out 0; have hfz10_1 := kfr BK129.out 1; have hfz10_2 := kfr BK129.out 2))
 refine bodyPost_ret (results_cell_row rfl _ _ gb129 60 #[.int .i64 a0_0, .int .i64 a0_1, .string a0_2] (0, 0) _ rfl (by (with_reducible repeat (first | apply kdn | apply kdr | apply kal)); refine blk_put (cs := #[.int .i64 a0_0, .int .i64 a0_1, .string (⟨#[]⟩ : ByteArray)]) ?_ 2 _ rfl; (with_reducible repeat (first | apply kdn | apply kdr | apply kal)); refine blk_put (cs := #[.int .i64 a0_0, .int .i64 0, .string (⟨#[]⟩ : ByteArray)]) ?_ 1 _ rfl; (with_reducible repeat (first | apply kdn | apply kdr | apply kal)); refine blk_put (cs := #[.int .i64 0, .int .i64 0, .string (⟨#[]⟩ : ByteArray)]) ?_ 0 _ rfl; (with_reducible repeat (first | apply kdn | apply kdr | apply kal)); refine blk_far ?_ NB129_130.out _; (with_reducible repeat (first | apply kdn | apply kdr | apply kal)); refine blk_far ?_ NB129_130.out _; (with_reducible repeat (first | apply kdn | apply kdr | apply kal)); refine blk_far ?_ NB129_130.out _; (with_reducible repeat (first | apply kdn | apply kdr | apply kal)); exact BK129.out) Try.underlying60 rfl (by kernel_rfl)) rfl ?_
 exact ⟨by first | rfl | (simp [errW_none, errW_some] <;> rfl) | (simp [*, errW_none, errW_some] <;> rfl), by repeat (first | (with_reducible first | exact HB.out | apply bal | apply pdn | apply bd1 | refine bst ?_ GE128.out | refine bst ?_ GE129.out | refine bst ?_ GE130.out) | exact HB.out)⟩

/-! ### laws_toOpS: function 47 -/
def laws_toOpS.l0 : Nat → List (S57) → List (S60) → Int → Option ((List (S60)))
 | 0, _, _, _ => none
 | k + 1, x0, x3, x4 => if x4 < (x0.length : Int) then (if 0 ≤ x4 then ((laws_toOp.f ((rd_T57 x0 x4).f0) ((rd_T57 x0 x4).f1) ((rd_T57 x0 x4).f2)).bind fun bt135 => (if x4 < (x3.length : Int) then (laws_toOpS.l0 k x0 (x3.set (x4 : Int).toNat (⟨bt135.1, bt135.2.1, bt135.2.2⟩ : S60)) (wrap64 (x4 + 1))) else (none))) else (none)) else (some x3)
def laws_toOpS.f (k : Nat) (l0 : List (S57)) : Option ((List (S60))) := if 0 ≤ (l0.length : Int) then (if ((l0.length : Int) : Int).toNat ≤ 8796093022208 then (laws_toOpS.l0 k l0 (List.replicate ((l0.length : Int) : Int).toNat z60) 0) else (none)) else (none)
theorem laws_toOpS.mono_l : ∀ k, (∀ y0 y1 y2, LeO (laws_toOpS.l0 k y0 y1 y2) (laws_toOpS.l0 (k + 1) y0 y1 y2))
 | 0 => fun _ _ _ r h => by simp [laws_toOpS.l0] at h
 | k + 1 => by
  have ih0 := laws_toOpS.mono_l k
  ·intro y0 y1 y2
   unfold laws_toOpS.l0
   repeat' first
   | (with_reducible exact ih0 _ _ _)
   | (with_reducible exact LeO.refl _)
   | (with_reducible exact LeO.none _)
   | (with_reducible refine LeO.ite ?_ ?_)
   | (with_reducible refine LeO.bind ?_ (fun _ => ?_))
   | exact ih0 _ _ _
   | exact LeO.none _
   | refine LeO.ite ?_ ?_
   | refine LeO.bind ?_ (fun _ => ?_)
theorem laws_toOpS.mono : ∀ a0 k, LeO (laws_toOpS.f k a0) (laws_toOpS.f (k + 1) a0) := by
 intro a0 k
 have ih0 := laws_toOpS.mono_l k
 unfold laws_toOpS.f
 repeat' first
   | (with_reducible exact ih0 _ _ _)
   | (with_reducible exact LeO.refl _)
   | (with_reducible exact LeO.none _)
   | (with_reducible refine LeO.ite ?_ ?_)
   | (with_reducible refine LeO.bind ?_ (fun _ => ?_))
   | exact ih0 _ _ _
   | exact LeO.none _
   | refine LeO.ite ?_ ?_
   | refine LeO.bind ?_ (fun _ => ?_)
set_option maxHeartbeats 8000000 in
set_option maxRecDepth 100000 in
theorem laws_toOpS.calls (k : Nat) (A0 : Option Addr) (c0 : Nat) (l0 : List (S57)) (r : List (S60)) (w : World) (hr0 : Kd.C k57 w A0 l0.length l0) (hc0 : l0.length ≤ c0) (h : laws_toOpS.f k l0 = some r) :
  Calls Try.prog 47 #[.slice A0 l0.length c0] w fun e w' => ∃ v0_ : Value, e = .returned (v0_) ∧ Kd.R k60 60 w' w.heap.size (fun _ => True) v0_ r ∧ Below w.heap.size w w' := by
 have hu57 := Try.underlying57
 have hu60 := Try.underlying60
 have HR0 := am hr0
 have HC0 := am hc0
 clear hr0 hc0
 have HB := am (Below.refl w.heap.size w)
 have H : (if 0 ≤ (l0.length : Int) then (if ((l0.length : Int) : Int).toNat ≤ 8796093022208 then (laws_toOpS.l0 k l0 (List.replicate ((l0.length : Int) : Int).toNat z60) 0) else (none)) else (none)) = some r := h
 clear h
 by_cases c2 : 0 ≤ (l0.length : Int)
 ·rw [if_pos c2] at H
  have c2b0 := eq_true c2
  have c2b1 : decide (0 ≤ (l0.length : Int)) = true := decide_eq_true c2
  clear c2
  by_cases c3 : ((l0.length : Int) : Int).toNat ≤ 8796093022208
  ·rw [if_pos c3] at H
   have c3b0 := eq_true c3
   have c3b1 : decide (((l0.length : Int) : Int).toNat ≤ 8796093022208) = true := decide_eq_true c3
   clear c3
   obtain ⟨y131, hy131⟩ : ∃ y_ : List (S60), y_ = (List.replicate ((l0.length : Int) : Int).toNat z60) := ⟨_, rfl⟩
   replace H : (laws_toOpS.l0 k l0 y131 0) = some r := by first | (rw [hy131]; with_reducible exact H) | (have H2_ := (Option.bind_some _ _).symm.trans H; rw [hy131]; with_reducible exact H2_) | (have H2_ := (Option.bind_some _ _).symm.trans H; with_reducible exact H2_) | with_reducible exact H | (rw [hy131]; exact H) | exact H
   have Ny131 := am hy131
   clear hy131
   have H' := am H
   clear H
   go_enter Try.func47, Try.ntmps47
   go_wp2_with (first | ((with_reducible refine gate_dst (N := 7) rfl ?_); refine Kd.R_make k60 _ 60 rfl (N := 7) rfl 73 _ _ rfl (l0.length : Int) rfl rfl Try.underlying73 (.agg #[(.int .i64 0), (.int .i64 0), (.string ⟨#[]⟩)]) 32 info60 rfl (by decide) (by omega) z60 (ok := fun _ => True) (okp := fun _ => True) (k60_mkM _ _ _ z60 ) (fun _ hk => hk) trivial (of_decide_eq_true (by first | (with_reducible assumption) | assumption)) (Nat.le_trans (Nat.mul_le_mul_right _ (of_decide_eq_true (by first | (with_reducible assumption) | assumption) : (l0.length : Int).toNat ≤ 8796093022208)) (by omega)) (Below.refl _ _) (Nat.le_refl _) ?_; intro v132 w4 ho5 hb hg_ hnew_; clear hg_ hnew_; (first | rw [← Ny131.out] at ho5 | (simp only [Int.reduceToNat] at ho5; rw [← Ny131.out] at ho5)); have n0_ := am (Kd.R_lower ho5 (below_size (by repeat (first | (with_reducible first | exact HB.out | apply bal | apply pdn | apply bd1) | exact HB.out)))); have n1_ := am (below_step (by repeat (first | (with_reducible first | exact HB.out | apply bal | apply pdn | apply bd1) | exact HB.out)) hb); clear HB; have HO133 := n0_; have HB := n1_; clear n0_ n1_; clear hb ho5))
   go_loopg [4] k (fun kq v4 w' => ∃ (x3_1 : List (S60)) (x4_1 : Int), v4 = .int .i64 x4_1 ∧ Aside0 (laws_toOpS.l0 kq l0 x3_1 x4_1 = some r) ∧ Aside0 (kq ≤ k) ∧ Aside0 (Kd.R k60 60 w' w.heap.size (fun _ => True) v132 x3_1) ∧ Aside0 (Below w.heap.size w w'))
   case atStart => exact ⟨(y131), (0), (by first | rfl | (simp; done) | (simp [*]; done)), H', ⟨Nat.le_refl _⟩, ⟨by (with_reducible repeat (first | apply kra | apply krn | apply krd)); exact HO133.out⟩, ⟨by repeat (first | (with_reducible first | exact HB.out | apply bal | apply pdn | apply bd1) | exact HB.out)⟩⟩
   case round =>
    clear H'
    obtain ⟨x3_1, x4_1, rfl, HA, HK1, HO_3, HB⟩ := hrel
    cases gk with
    | zero => exact absurd HA.out (by simp [laws_toOpS.l0])
    | succ k1 =>
     have H := HA.out
     clear HA
     simp only [laws_toOpS.l0] at H
     by_cases c6 : x4_1 < (l0.length : Int)
     ·rw [if_pos c6] at H
      have c6b0 : decide (x4_1 < (l0.length : Int)) = true := decide_eq_true c6
      clear c6
      by_cases c7 : 0 ≤ x4_1
      ·rw [if_pos c7] at H
       have c7b0 : decide (0 ≤ x4_1) = true := decide_eq_true c7
       clear c7
       replace H := Option.bind_eq_some_iff.mp H
       obtain ⟨⟨t135, t136, t137⟩, A80, H⟩ := H
       replace H : (if x4_1 < (x3_1.length : Int) then (laws_toOpS.l0 k1 l0 (x3_1.set (x4_1 : Int).toNat (⟨t135, t136, t137⟩ : S60)) (wrap64 (x4_1 + 1))) else (none)) = some r := H
       have A8 := am A80
       clear A80
       by_cases c9 : x4_1 < (x3_1.length : Int)
       ·rw [if_pos c9] at H
        have c9b0 : decide (x4_1 < (x3_1.length : Int)) = true := decide_eq_true c9
        clear c9
        obtain ⟨y138, hy138⟩ : ∃ y_ : List (S60), y_ = (x3_1.set (x4_1 : Int).toNat (⟨t135, t136, t137⟩ : S60)) := ⟨_, rfl⟩
        replace H : (laws_toOpS.l0 k1 l0 y138 (wrap64 (x4_1 + 1))) = some r := by first | (rw [hy138]; with_reducible exact H) | (have H2_ := (Option.bind_some _ _).symm.trans H; rw [hy138]; with_reducible exact H2_) | (have H2_ := (Option.bind_some _ _).symm.trans H; with_reducible exact H2_) | with_reducible exact H | (rw [hy138]; exact H) | exact H
        have Ny138 := am hy138
        clear hy138
        have H' := am H
        clear H
        have p134 : 0 ≤ (x4_1 : Int) := of_decide_eq_true (by first | (with_reducible assumption) | assumption)
        have q134 : x4_1 < (l0.length : Int) := of_decide_eq_true (by first | (with_reducible assumption) | assumption)
        obtain ⟨ad134, e134, hx134_0, hx134_1, hx134_2⟩ := at_T57 HR0.out x4_1 p134 q134
        cases e134
        replace hx134_0 := (HB.out.cell (blc w _ hx134_0)).trans hx134_0
        replace hx134_1 := (HB.out.cell (blc w _ hx134_1)).trans hx134_1
        replace hx134_2 := (HB.out.cell (blc w _ hx134_2)).trans hx134_2
        replace p134 := eq_true p134
        replace q134 := eq_true q134
        go_wp2_with (first | ((with_reducible refine gate_callee (f := 38) rfl ?_); refine goesL_ (some 20) rfl rfl Try.func38 (by kernel_rfl) rfl #[.agg #[.int .i64 ((rd_T57 l0 x4_1).f0), .int .i64 ((rd_T57 l0 x4_1).f1), .string ((rd_T57 l0 x4_1).f2)]] rfl (by (try simp only [mta, mco, mni]); first | done | rfl | (simp only [lnd, lnt]; rfl)) ?_; (with_reducible refine (laws_toOp.calls ((rd_T57 l0 x4_1).f0) ((rd_T57 l0 x4_1).f1) ((rd_T57 l0 x4_1).f2) t135 t136 t137 _ A8.out).mono ?_); rintro e w11 ⟨rfl, hb⟩; refine ⟨_, rfl, ?_⟩; have n0_ := am (krb (by (with_reducible repeat (first | apply kra | apply krn | apply krd)); exact HO_3.out) hb); have n1_ := am (below_step (by repeat (first | (with_reducible first | exact HB.out | apply bal | apply pdn | apply bd1) | exact HB.out)) hb); clear HO_3; clear HB; have HO_3 := n0_; have HB := n1_; clear n0_ n1_; (try clear hb); (try clear hb2); (try clear hk); (try clear hi); have p10 : 0 ≤ (x4_1 : Int) := of_decide_eq_true (by first | (with_reducible assumption) | assumption); have q10 : (x4_1 : Int) < ((x3_1.length : Int) : Int) := of_decide_eq_true (by first | (with_reducible assumption) | assumption); obtain ⟨go10, co10, eo10, gb10, gl10, cl10, HG10⟩ := Kd.R_form HO_3.out (by omega); (first | cases eo10 | (injection eo10 with ea_ en_ ec_; (first | subst ea_ | (injection ea_ with ea_; subst ea_)); subst ec_; clear en_)); have GB10 := am gb10; have GG10 := am HG10; clear gb10 gl10 HG10; obtain ⟨ce10, hcl10, hM10, hcc10, hfr10⟩ := Kd.R_elem HO_3.out z60 (x4_1 : Int) p10 q10; obtain rfl := k60_openM hM10; have hx10_0 : w11.cell? ⟨go10, (x4_1 : Int).toNat * 3, none⟩ = some (.int .i64 ((rd_T60 x3_1 x4_1).f0)) := hcc10 0 _ rfl; have hx10_1 : w11.cell? ⟨go10, (x4_1 : Int).toNat * 3 + 1, none⟩ = some (.int .i64 ((rd_T60 x3_1 x4_1).f1)) := hcc10 1 _ rfl; have hx10_2 : w11.cell? ⟨go10, (x4_1 : Int).toNat * 3 + 2, none⟩ = some (.string ((rd_T60 x3_1 x4_1).f2)) := hcc10 2 _ rfl; have hf10_0 : w11.frozen? ⟨go10, (x4_1 : Int).toNat * 3, none⟩ = false := hfr10 0; have hf10_1 : w11.frozen? ⟨go10, (x4_1 : Int).toNat * 3 + 1, none⟩ = false := hfr10 1; have hf10_2 : w11.frozen? ⟨go10, (x4_1 : Int).toNat * 3 + 2, none⟩ = false := hfr10 2; clear hcl10 hcc10 hfr10 hM10; replace p10 := eq_true p10; replace q10 := eq_true q10; have HX12 := am (show Kd.R k60 60 w11 w.heap.size (fun _ => True) (.slice (some ⟨go10, 0, none⟩) x3_1.length co10) x3_1 from (by (with_reducible repeat (first | apply kra | apply krn | apply krd)); exact HO_3.out)); obtain ⟨ce12, hcl12, hM12, hcc12, hfr12⟩ := Kd.R_elem HX12.out z60 (x4_1 : Int) (of_decide_eq_true (by first | (with_reducible assumption) | assumption)) (by have h_ : (x4_1 : Int) < ((x3_1.length : Int) : Int) := of_decide_eq_true (by first | (with_reducible assumption) | assumption); first | exact h_ | (have e_ := (Kd.R_reads' HO_3.out).1; omega) | simpa using h_); obtain rfl := k60_openM hM12; have HP12 := Kd.R_seg HX12.out (x4_1 : Int) (of_decide_eq_true (by first | (with_reducible assumption) | assumption)) (by have h_ : (x4_1 : Int) < ((x3_1.length : Int) : Int) := of_decide_eq_true (by first | (with_reducible assumption) | assumption); first | exact h_ | (have e_ := (Kd.R_reads' HO_3.out).1; omega) | simpa using h_) (seg := [.int .i64 t135, .int .i64 t136, .string t137]) (j := 0) hcl12 hcc12 (show 3 ≤ 3 from by decide) (x' := (⟨t135, t136, t137⟩ : S60)) (k60_mkM _ _ _ (⟨t135, t136, t137⟩ : S60) ) (fun _ hk => hk); have hx12_0 := hcc12 0 _ rfl; (try simp only [show (k60).sz = 3 from rfl, Nat.mul_one, Nat.add_zero] at hx12_0); have hf12_0 := hfr12 0; (try simp only [show (k60).sz = 3 from rfl, Nat.mul_one, Nat.add_zero] at hf12_0); have hx12_1 := hcc12 1 _ rfl; (try simp only [show (k60).sz = 3 from rfl, Nat.mul_one, Nat.add_zero] at hx12_1); have hf12_1 := hfr12 1; (try simp only [show (k60).sz = 3 from rfl, Nat.mul_one, Nat.add_zero] at hf12_1); have hx12_2 := hcc12 2 _ rfl; (try simp only [show (k60).sz = 3 from rfl, Nat.mul_one, Nat.add_zero] at hx12_2); have hf12_2 := hfr12 2; (try simp only [show (k60).sz = 3 from rfl, Nat.mul_one, Nat.add_zero] at hf12_2); clear hcl12 hcc12 hfr12 hM12) | ((with_reducible refine gate_store (t := 60) (p := 21) rfl ?_); refine store_event (t := 60) (p := 21) (v := ?vo_w13) (w1 := (((w11.setCell ⟨go10, (x4_1 : Int).toNat * 3, none⟩ (.int .i64 t135)).setCell ⟨go10, (x4_1 : Int).toNat * 3 + 1, none⟩ (.int .i64 t136)).setCell ⟨go10, (x4_1 : Int).toNat * 3 + 2, none⟩ (.string t137))) ?hg ?ho ?hn ?hr ?_; (case ho => rfl); (case hg => rfl); (case hn => rfl); (case hr => first | (go_simp; done) | (go_simp; rfl)); intro w13 hw; have hg : w11.grownBy w13 (some go10) := (by rw [hw]; exact HP12.2); have hp_ : Kd.R k60 60 w13 w.heap.size (fun _ => True) (.slice (some ⟨go10, 0, none⟩) x3_1.length co10) y138 := (by rw [hw, Ny138.out]; exact HP12.1); clear HP12; have n0_ := am (hp_); have n1_ := am ((by rw [hw]; exact bst (bst (bst (HB.out) GB10.out) GB10.out) GB10.out : Below w.heap.size w w13)); clear HO_3; clear HB; have HO_3 := n0_; have HB := n1_; clear n0_ n1_; clear hg hw hp_))
        go_roundg k1
        case measure => have := HK1.out; omega
        case rel => exact ⟨(y138), (wrap64 (x4_1 + 1)), (by first | rfl | (simp; done) | (simp [*]; done)), H', ⟨by have := HK1.out; omega⟩, ⟨by (with_reducible repeat (first | apply kra | apply krn | apply krd)); exact HO_3.out⟩, ⟨by repeat (first | (with_reducible first | exact HB.out | apply bal | apply pdn | apply bd1) | exact HB.out)⟩⟩
       ·rw [if_neg c9] at H
        exact absurd H (by simp)
      ·rw [if_neg c7] at H
       exact absurd H (by simp)
     ·rw [if_neg c6] at H
      have c6b0 : decide (x4_1 < (l0.length : Int)) = false := decide_eq_false c6
      clear c6
      obtain rfl := Option.some.inj H
      go_wp2
      go_ret
      exact ⟨_, by first | rfl | (simp [errW_none, errW_some] <;> rfl) | (simp [*, errW_none, errW_some] <;> rfl), by (with_reducible repeat (first | apply kra | apply krn | apply krd)); exact HO_3.out, by repeat (first | (with_reducible first | exact HB.out | apply bal | apply pdn | apply bd1) | exact HB.out)⟩
  ·rw [if_neg c3] at H
   exact absurd H (by simp)
 ·rw [if_neg c2] at H
  exact absurd H (by simp)

/-! ### impl_between: function 60 -/
def impl_between.f (a0 : Int) (a1 : Int) (a2 : Int) : Option (Bool) := if a0 ≥ a1 then (some (decide (a0 ≤ a2))) else (some false)
set_option maxHeartbeats 8000000 in
set_option maxRecDepth 100000 in
theorem impl_between.calls (a0 : Int) (a1 : Int) (a2 : Int) (r : Bool) (w : World) (h : impl_between.f a0 a1 a2 = some r) :
  Calls Try.prog 60 #[.int .i64 a0, .int .i64 a1, .int .i64 a2] w fun e w' => e = .returned (.bool r) ∧ Drawn0 w w' := by
 have H : (if a0 ≥ a1 then (some (decide (a0 ≤ a2))) else (some false)) = some r := h
 clear h
 by_cases c4 : a0 ≥ a1
 ·rw [if_pos c4] at H
  have c4b0 : decide (a1 ≤ a0) = true := decide_eq_true c4
  clear c4
  obtain rfl := Option.some.inj H
  go_enter Try.func60, Try.ntmps60
  go_wp2
  go_ret
  exact ⟨by first | rfl | (simp; done) | (simp [*]; done), by repeat (first | exact Drawn0.refl _ | apply Drawn0.step)⟩
 ·rw [if_neg c4] at H
  have c4b0 : decide (a1 ≤ a0) = false := decide_eq_false c4
  clear c4
  obtain rfl := Option.some.inj H
  go_enter Try.func60, Try.ntmps60
  go_wp2
  go_ret
  exact ⟨by first | rfl | (simp; done) | (simp [*]; done), by repeat (first | exact Drawn0.refl _ | apply Drawn0.step)⟩

/-! ### impl_CodeOk: function 117 -/
def impl_CodeOk.f (a0_0 : Int) (a0_1 : Int) : Option (Bool) := (impl_between.f a0_0 1 4).bind fun t140 => (if t140 = true then ((impl_between.f a0_1 0 3).bind fun t141 => (some t141)) else (some false))
set_option maxHeartbeats 8000000 in
set_option maxRecDepth 100000 in
theorem impl_CodeOk.calls (a0_0 : Int) (a0_1 : Int) (r : Bool) (w : World) (h : impl_CodeOk.f a0_0 a0_1 = some r) :
  Calls Try.prog 117 #[.agg #[.int .i64 a0_0, .int .i64 a0_1]] w fun e w' => e = .returned (.bool r) ∧ Below w.heap.size w w' := by
 have hu84 := Try.underlying84
 have HB := am (Below.refl w.heap.size w)
 have H : ((impl_between.f a0_0 1 4).bind fun t140 => (if t140 = true then ((impl_between.f a0_1 0 3).bind fun t141 => (some t141)) else (some false))) = some r := h
 clear h
 replace H := Option.bind_eq_some_iff.mp H
 obtain ⟨t140, A20, H⟩ := H
 replace H : (if t140 = true then ((impl_between.f a0_1 0 3).bind fun t141 => (some t141)) else (some false)) = some r := H
 have A2 := am A20
 clear A20
 by_cases c3 : t140 = true
 ·subst c3
  have H1 : ((impl_between.f a0_1 0 3).bind fun t141 => (some t141)) = some r := by rw [if_pos rfl] at H; exact H
  clear H
  have H := H1
  clear H1
  replace H := Option.bind_eq_some_iff.mp H
  obtain ⟨t141, A40, H⟩ := H
  replace H : (some t141) = some r := H
  have A4 := am A40
  clear A40
  obtain rfl := Option.some.inj H
  go_enter Try.func117, Try.ntmps117
  go_wp2_with (first | ((with_reducible refine gate_dst (N := 1) rfl ?_); refine box_event ?hg (N := 1) ?hd (cs := #[.int .i64 a0_0, .int .i64 a0_1]) (t := 84) ?hr ?_; (case hd => rfl); (case hg => rfl); (case hr => first | (go_simp; done) | (go_simp; rfl)); intro gb139 hg w5 hbox hb; have n0_ := am (below_step (by repeat (first | (with_reducible first | exact HB.out | apply bal | apply pdn | apply bd1) | exact HB.out)) hb); have n1_ := am (hbox); have n2_ := am ((by rw [hg]; exact (below_size (by repeat (first | (with_reducible first | exact HB.out | apply bal | apply pdn | apply bd1) | exact HB.out))) : w.heap.size ≤ gb139)); have n3_ := am ((by rw [hg]; exact (below_size (by repeat (first | (with_reducible first | exact HB.out | apply bal | apply pdn | apply bd1) | exact HB.out))) : w.heap.size ≤ gb139)); clear HB; have HB := n0_; have BK139 := n1_; have GW139 := n2_; have GE139 := n3_; clear n0_ n1_ n2_ n3_; clear hb hbox hg; have hcz6_0 : w5.cell? ⟨gb139, 0, none⟩ = some (.int .i64 a0_0) := (kce BK139.out 0).trans rfl; have hcz6_1 : w5.cell? ⟨gb139, 1, none⟩ = some (.int .i64 a0_1) := (kce BK139.out 1).trans rfl; have hfz6_0 := kfr BK139.out 0; have hfz6_1 := kfr BK139.out 1) | ((with_reducible refine gate_callee (f := 60) rfl ?_); refine goesL_ (some 5) rfl rfl Try.func60 (by kernel_rfl) rfl #[.int .i64 a0_0, .int .i64 1, .int .i64 4] rfl (by (try simp only [mta, mco, mni]); first | done | rfl | (simp only [lnd, lnt]; rfl)) ?_; (with_reducible refine (impl_between.calls a0_0 1 4 true _ A2.out).mono ?_); rintro e w' ⟨rfl, ⟨nd, rfl⟩⟩; refine ⟨_, rfl, ?_⟩) | (go_at_call 60; (with_reducible refine (impl_between.calls a0_1 0 3 t141 _ A4.out).mono ?_); rintro e w' ⟨rfl, ⟨nd, rfl⟩⟩))
  go_ret
  exact ⟨by first | rfl | (simp [errW_none, errW_some] <;> rfl) | (simp [*, errW_none, errW_some] <;> rfl), by repeat (first | (with_reducible first | exact HB.out | apply bal | apply pdn | apply bd1 | refine bst ?_ GE139.out) | exact HB.out)⟩
 ·replace c3 := Bool.eq_false_iff.mpr c3
  subst c3
  have H1 : (some false) = some r := by rw [if_neg (show ¬ (false = true) by decide)] at H; exact H
  clear H
  have H := H1
  clear H1
  obtain rfl := Option.some.inj H
  go_enter Try.func117, Try.ntmps117
  go_wp2_with (first | ((with_reducible refine gate_dst (N := 1) rfl ?_); refine box_event ?hg (N := 1) ?hd (cs := #[.int .i64 a0_0, .int .i64 a0_1]) (t := 84) ?hr ?_; (case hd => rfl); (case hg => rfl); (case hr => first | (go_simp; done) | (go_simp; rfl)); intro gb139 hg w7 hbox hb; have n0_ := am (below_step (by repeat (first | (with_reducible first | exact HB.out | apply bal | apply pdn | apply bd1) | exact HB.out)) hb); have n1_ := am (hbox); have n2_ := am ((by rw [hg]; exact (below_size (by repeat (first | (with_reducible first | exact HB.out | apply bal | apply pdn | apply bd1) | exact HB.out))) : w.heap.size ≤ gb139)); have n3_ := am ((by rw [hg]; exact (below_size (by repeat (first | (with_reducible first | exact HB.out | apply bal | apply pdn | apply bd1) | exact HB.out))) : w.heap.size ≤ gb139)); clear HB; have HB := n0_; have BK139 := n1_; have GW139 := n2_; have GE139 := n3_; clear n0_ n1_ n2_ n3_; clear hb hbox hg; have hcz8_0 : w7.cell? ⟨gb139, 0, none⟩ = some (.int .i64 a0_0) := (kce BK139.out 0).trans rfl; have hcz8_1 : w7.cell? ⟨gb139, 1, none⟩ = some (.int .i64 a0_1) := (kce BK139.out 1).trans rfl; have hfz8_0 := kfr BK139.out 0; have hfz8_1 := kfr BK139.out 1) | ((with_reducible refine gate_callee (f := 60) rfl ?_); refine goesL_ (some 5) rfl rfl Try.func60 (by kernel_rfl) rfl #[.int .i64 a0_0, .int .i64 1, .int .i64 4] rfl (by (try simp only [mta, mco, mni]); first | done | rfl | (simp only [lnd, lnt]; rfl)) ?_; (with_reducible refine (impl_between.calls a0_0 1 4 false _ A2.out).mono ?_); rintro e w' ⟨rfl, ⟨nd, rfl⟩⟩; refine ⟨_, rfl, ?_⟩))
  go_ret
  exact ⟨by first | rfl | (simp [errW_none, errW_some] <;> rfl) | (simp [*, errW_none, errW_some] <;> rfl), by repeat (first | (with_reducible first | exact HB.out | apply bal | apply pdn | apply bd1 | refine bst ?_ GE139.out) | exact HB.out)⟩

end Go.Proofs.Ythphhklbliambaa.MFnExactApplyOps
