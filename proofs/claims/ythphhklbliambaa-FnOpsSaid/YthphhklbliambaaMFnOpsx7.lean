-- Written by a program of this session (wip/tools/myprint.py) over the kit's print: it is not the kit's print.
import Derived.Test.YthphhklbliambaaExtra
import Derived.Lib.Agree
import Derived.Ground.NamesProg
import Derived.Shelf.Lay
import Derived.Shelf.Strings.Repeat
import Derived.Test.YthphhklbliambaaMFnOpsx0
import Derived.Test.YthphhklbliambaaMFnOpsx5
import Derived.Test.YthphhklbliambaaMFnOpsx6
namespace Go.Proofs.Ythphhklbliambaa.MFnOps
open Go.RowKit Go.Proofs.YthphhklbliambaaW.PrintWords Go.Proofs.YthphhklbliambaaW.PrintLast Go.Proofs.YthphhklbliambaaW.PrintMore
open List renaming setIfInBounds_toArray → sit, set_cons_zero → scz, set_cons_succ → scs, map_toArray → mta, map_cons → mco, map_nil → mni, length_drop → lnd, length_take → lnt
open World renaming block_lt_of_cell? → blc
attribute [local go_sem] max2_int min2_int max_two min_two max_three min_three max_four min_four   -- for this text's walks alone
set_option linter.unusedVariables false
set_option linter.unusedSimpArgs false

/-! ### spec_ApplyOps: function 46 -/
mutual
def spec_ApplyOps.j0 : Nat → ByteArray → Bool → List (S60) → Bool → Option (ByteArray × Bool)
 | 0, _, _, _, _ => none
 | k + 1, x0, x1, x2, x16 => if x16 = true then (some ((⟨#[]⟩ : ByteArray), false)) else (if x1 = true then (spec_ApplyOps.j1 k x0 x1 x2) else (spec_ApplyOps.j1 k (⟨#[]⟩ : ByteArray) x1 x2))
def spec_ApplyOps.j1 : Nat → ByteArray → Bool → List (S60) → Option (ByteArray × Bool)
 | 0, _, _, _ => none
 | k + 1, x0, x1, x2 => spec_ApplyOps.l0 k x0 x1 x2 0
def spec_ApplyOps.l0 : Nat → ByteArray → Bool → List (S60) → Int → Option (ByteArray × Bool)
 | 0, _, _, _, _ => none
 | k + 1, x0, x1, x2, x8 => if x8 < (x2.length : Int) then ((spec_l16Plain.f).bind fun bt166 => (if 0 ≤ x8 then ((spec_OpOk.f k bt166.1 bt166.2 ((rd_T60 x2 x8).f0) ((rd_T60 x2 x8).f1) ((rd_T60 x2 x8).f2)).bind fun t169 => (if t169 = true then ((spec_ApplyOp.f k x0 x1 ((rd_T60 x2 x8).f0) ((rd_T60 x2 x8).f1) ((rd_T60 x2 x8).f2)).bind fun bt171 => (spec_ApplyOps.l0 k bt171.1 bt171.2 x2 (wrap64 (x8 + 1)))) else (some ((⟨#[]⟩ : ByteArray), false)))) else (none))) else (some (x0, x1))
end
def spec_ApplyOps.f (k : Nat) (a0 : ByteArray) (a1 : Bool) (l2 : List (S60)) : Option (ByteArray × Bool) := if (l2.length : Int) > 24 then (spec_ApplyOps.j0 k a0 a1 l2 true) else (spec_ApplyOps.j0 k a0 a1 l2 (decide ((a0.size : Int) > 64)))
theorem spec_ApplyOps.mono_l : ∀ k, (∀ y0 y1 y2 y3, LeO (spec_ApplyOps.j0 k y0 y1 y2 y3) (spec_ApplyOps.j0 (k + 1) y0 y1 y2 y3)) ∧ (∀ y0 y1 y2, LeO (spec_ApplyOps.j1 k y0 y1 y2) (spec_ApplyOps.j1 (k + 1) y0 y1 y2)) ∧ (∀ y0 y1 y2 y3, LeO (spec_ApplyOps.l0 k y0 y1 y2 y3) (spec_ApplyOps.l0 (k + 1) y0 y1 y2 y3))
 | 0 => ⟨fun _ _ _ _ r h => by simp [spec_ApplyOps.j0] at h, fun _ _ _ r h => by simp [spec_ApplyOps.j1] at h, fun _ _ _ _ r h => by simp [spec_ApplyOps.l0] at h⟩
 | k + 1 => by
  obtain ⟨ih0, ih1, ih2⟩ := spec_ApplyOps.mono_l k
  refine ⟨?_, ?_, ?_⟩
  ·intro y0 y1 y2 y3
   unfold spec_ApplyOps.j0
   repeat' first
   | (with_reducible exact ih0 _ _ _ _)
   | (with_reducible exact ih1 _ _ _)
   | (with_reducible exact ih2 _ _ _ _)
   | (with_reducible exact spec_ApplyOp.mono _ _ _ _ _ _)
   | (with_reducible exact spec_OpOk.mono _ _ _ _ _ _)
   | (with_reducible exact LeO.refl _)
   | (with_reducible exact LeO.none _)
   | (with_reducible refine LeO.ite ?_ ?_)
   | (with_reducible refine LeO.bind ?_ (fun _ => ?_))
   | exact ih0 _ _ _ _
   | exact ih1 _ _ _
   | exact ih2 _ _ _ _
   | exact spec_ApplyOp.mono _ _ _ _ _ _
   | exact spec_OpOk.mono _ _ _ _ _ _
   | exact LeO.none _
   | refine LeO.ite ?_ ?_
   | refine LeO.bind ?_ (fun _ => ?_)
  ·intro y0 y1 y2
   unfold spec_ApplyOps.j1
   repeat' first
   | (with_reducible exact ih0 _ _ _ _)
   | (with_reducible exact ih1 _ _ _)
   | (with_reducible exact ih2 _ _ _ _)
   | (with_reducible exact spec_ApplyOp.mono _ _ _ _ _ _)
   | (with_reducible exact spec_OpOk.mono _ _ _ _ _ _)
   | (with_reducible exact LeO.refl _)
   | (with_reducible exact LeO.none _)
   | (with_reducible refine LeO.ite ?_ ?_)
   | (with_reducible refine LeO.bind ?_ (fun _ => ?_))
   | exact ih0 _ _ _ _
   | exact ih1 _ _ _
   | exact ih2 _ _ _ _
   | exact spec_ApplyOp.mono _ _ _ _ _ _
   | exact spec_OpOk.mono _ _ _ _ _ _
   | exact LeO.none _
   | refine LeO.ite ?_ ?_
   | refine LeO.bind ?_ (fun _ => ?_)
  ·intro y0 y1 y2 y3
   unfold spec_ApplyOps.l0
   repeat' first
   | (with_reducible exact ih0 _ _ _ _)
   | (with_reducible exact ih1 _ _ _)
   | (with_reducible exact ih2 _ _ _ _)
   | (with_reducible exact spec_ApplyOp.mono _ _ _ _ _ _)
   | (with_reducible exact spec_OpOk.mono _ _ _ _ _ _)
   | (with_reducible exact LeO.refl _)
   | (with_reducible exact LeO.none _)
   | (with_reducible refine LeO.ite ?_ ?_)
   | (with_reducible refine LeO.bind ?_ (fun _ => ?_))
   | exact ih0 _ _ _ _
   | exact ih1 _ _ _
   | exact ih2 _ _ _ _
   | exact spec_ApplyOp.mono _ _ _ _ _ _
   | exact spec_OpOk.mono _ _ _ _ _ _
   | exact LeO.none _
   | refine LeO.ite ?_ ?_
   | refine LeO.bind ?_ (fun _ => ?_)
theorem spec_ApplyOps.mono : ∀ a0 a1 a2 k, LeO (spec_ApplyOps.f k a0 a1 a2) (spec_ApplyOps.f (k + 1) a0 a1 a2) := by
 intro a0 a1 a2 k
 obtain ⟨ih0, ih1, ih2⟩ := spec_ApplyOps.mono_l k
 unfold spec_ApplyOps.f
 repeat' first
   | (with_reducible exact ih0 _ _ _ _)
   | (with_reducible exact ih1 _ _ _)
   | (with_reducible exact ih2 _ _ _ _)
   | (with_reducible exact spec_ApplyOp.mono _ _ _ _ _ _)
   | (with_reducible exact spec_OpOk.mono _ _ _ _ _ _)
   | (with_reducible exact LeO.refl _)
   | (with_reducible exact LeO.none _)
   | (with_reducible refine LeO.ite ?_ ?_)
   | (with_reducible refine LeO.bind ?_ (fun _ => ?_))
   | exact ih0 _ _ _ _
   | exact ih1 _ _ _
   | exact ih2 _ _ _ _
   | exact spec_ApplyOp.mono _ _ _ _ _ _
   | exact spec_OpOk.mono _ _ _ _ _ _
   | exact LeO.none _
   | refine LeO.ite ?_ ?_
   | refine LeO.bind ?_ (fun _ => ?_)
set_option maxHeartbeats 8000000 in
set_option maxRecDepth 100000 in
theorem spec_ApplyOps.calls (k : Nat) (a0 : ByteArray) (a1 : Bool) (A2 : Option Addr) (c2 : Nat) (l2 : List (S60)) (r1 : ByteArray) (r2 : Bool) (w : World) (hr2 : Kd.C k60 w A2 l2.length l2) (hc2 : l2.length ≤ c2) (h : spec_ApplyOps.f k a0 a1 l2 = some (r1, r2)) :
  Calls Try.prog 46 #[.string a0, .bool a1, .slice A2 l2.length c2] w fun e w' => e = .returned (.tuple #[.string r1, .bool r2]) ∧ Below w.heap.size w w' := by
 have hu60 := Try.underlying60
 have HR2 := am hr2
 have HC2 := am hc2
 clear hr2 hc2
 have HB := am (Below.refl w.heap.size w)
 have H : (if (l2.length : Int) > 24 then (spec_ApplyOps.j0 k a0 a1 l2 true) else (spec_ApplyOps.j0 k a0 a1 l2 (decide ((a0.size : Int) > 64)))) = some (r1, r2) := h
 clear h
 have HC4 := am H
 clear H
 go_enter Try.func46, Try.ntmps46
 go_upto_region 1 with (fail)
 go_cut [16] (fun v16 wc => ∃ (kq : Nat) (x16_3 : Bool), v16 = .bool x16_3 ∧ Aside0 (spec_ApplyOps.j0 kq a0 a1 l2 x16_3 = some (r1, r2)) ∧ Aside0 (kq ≤ k) ∧ Aside0 (Below w.heap.size w wc))
 case first =>
  have H := HC4.out
  clear HC4
  by_cases c5 : (l2.length : Int) > 24
  ·rw [if_pos c5] at H
   have c5b0 : decide (24 < (l2.length : Int)) = true := decide_eq_true c5
   have c5b1 : decide (24 < l2.length) = true := decide_eq_true (by omega)
   clear c5
   (first | rw [c5b0] | (simp only [i64_w, i32_w]; rw [c5b0]) | skip)
   have H' := am H
   clear H
   go_wp2
   go_meet
   case rel => exact ⟨_, (true), (by first | rfl | (simp; done) | (simp [*]; done)), H', ⟨by first | omega | exact Nat.le_refl _⟩, ⟨by repeat (first | (with_reducible first | exact HB.out | apply bal | apply pdn | apply bd1) | exact HB.out)⟩⟩
  ·rw [if_neg c5] at H
   have c5b0 : decide (24 < (l2.length : Int)) = false := decide_eq_false c5
   have c5b1 : decide (24 < l2.length) = false := decide_eq_false (by omega)
   clear c5
   (first | rw [c5b0] | (simp only [i64_w, i32_w]; rw [c5b0]) | skip)
   have H' := am H
   clear H
   go_wp2
   go_meet
   case rel => exact ⟨_, (decide ((a0.size : Int) > 64)), (by first | rfl | (simp; done) | (simp [*]; done)), H', ⟨by first | omega | exact Nat.le_refl _⟩, ⟨by repeat (first | (with_reducible first | exact HB.out | apply bal | apply pdn | apply bd1) | exact HB.out)⟩⟩
 case rest =>
  clear HC4
  obtain ⟨kq, x16_3, rfl, HA, HJ3, HB⟩ := hcut
  cases kq with
  | zero => exact absurd HA.out (by simp [spec_ApplyOps.j0])
  | succ kj3 =>
   have H := HA.out
   clear HA
   simp only [spec_ApplyOps.j0] at H
   by_cases c6 : x16_3 = true
   ·subst c6
    have H1 : (some ((⟨#[]⟩ : ByteArray), false)) = some (r1, r2) := by rw [if_pos rfl] at H; exact H
    clear H
    have H := H1
    clear H1
    simp only [Option.some.injEq, Prod.mk.injEq] at H
    obtain ⟨rfl, rfl⟩ := H
    go_wp2
    go_ret2
    exact ⟨by first | rfl | (simp [errW_none, errW_some] <;> rfl) | (simp [*, errW_none, errW_some] <;> rfl), by repeat (first | (with_reducible first | exact HB.out | apply bal | apply pdn | apply bd1) | exact HB.out)⟩
   ·replace c6 := Bool.eq_false_iff.mpr c6
    subst c6
    have H1 : (if a1 = true then (spec_ApplyOps.j1 kj3 a0 a1 l2) else (spec_ApplyOps.j1 kj3 (⟨#[]⟩ : ByteArray) a1 l2)) = some (r1, r2) := by rw [if_neg (show ¬ (false = true) by decide)] at H; exact H
    clear H
    have H := H1
    clear H1
    have HC7 := am H
    clear H
    go_upto_if 18 with (fail)
    go_cut [0] (fun v0 wc => ∃ (kq : Nat) (x0_6 : ByteArray), v0 = .string x0_6 ∧ Aside0 (spec_ApplyOps.j1 kq x0_6 a1 l2 = some (r1, r2)) ∧ Aside0 (kq ≤ kj3) ∧ Aside0 (Below w.heap.size w wc))
    case first =>
     have H := HC7.out
     clear HC7
     by_cases c8 : a1 = true
     ·subst c8
      have H1 : (spec_ApplyOps.j1 kj3 a0 true l2) = some (r1, r2) := by rw [if_pos rfl] at H; exact H
      clear H
      have H := H1
      clear H1
      have H' := am H
      clear H
      go_wp2
      go_meet
      case rel => exact ⟨_, (a0), (by first | rfl | (simp; done) | (simp [*]; done)), H', ⟨by have := HJ3.out; first | omega | exact Nat.le_refl _⟩, ⟨by repeat (first | (with_reducible first | exact HB.out | apply bal | apply pdn | apply bd1) | exact HB.out)⟩⟩
     ·replace c8 := Bool.eq_false_iff.mpr c8
      subst c8
      have H1 : (spec_ApplyOps.j1 kj3 (⟨#[]⟩ : ByteArray) false l2) = some (r1, r2) := by rw [if_neg (show ¬ (false = true) by decide)] at H; exact H
      clear H
      have H := H1
      clear H1
      have H' := am H
      clear H
      go_wp2
      go_meet
      case rel => exact ⟨_, ((⟨#[]⟩ : ByteArray)), (by first | rfl | (simp; done) | (simp [*]; done)), H', ⟨by have := HJ3.out; first | omega | exact Nat.le_refl _⟩, ⟨by repeat (first | (with_reducible first | exact HB.out | apply bal | apply pdn | apply bd1) | exact HB.out)⟩⟩
    case rest =>
     clear HC7
     obtain ⟨kq, x0_6, rfl, HA, HJ6, HB⟩ := hcut
     cases kq with
     | zero => exact absurd HA.out (by simp [spec_ApplyOps.j1])
     | succ kj6 =>
      have H := HA.out
      clear HA
      simp only [spec_ApplyOps.j1] at H
      have H' := am H
      clear H
      go_wp2
      go_loopg [0, 1, 8] kj6 (fun kq v0 v1 v8 w' => ∃ (x0_3 : ByteArray) (x1_3 : Bool) (x8_3 : Int), v0 = .string x0_3 ∧ v1 = .bool x1_3 ∧ v8 = .int .i64 x8_3 ∧ Aside0 (spec_ApplyOps.l0 kq x0_3 x1_3 l2 x8_3 = some (r1, r2)) ∧ Aside0 (kq ≤ kj6) ∧ Aside0 (Below w.heap.size w w'))
      case atStart => exact ⟨(x0_6), (a1), (0), (by first | rfl | (simp; done) | (simp [*]; done)), (by first | rfl | (simp; done) | (simp [*]; done)), (by first | rfl | (simp; done) | (simp [*]; done)), H', ⟨Nat.le_refl _⟩, ⟨by repeat (first | (with_reducible first | exact HB.out | apply bal | apply pdn | apply bd1) | exact HB.out)⟩⟩
      case round =>
       clear H'
       obtain ⟨x0_3, x1_3, x8_3, rfl, rfl, rfl, HA, HK3, HB⟩ := hrel
       cases gk with
       | zero => exact absurd HA.out (by simp [spec_ApplyOps.l0])
       | succ k3 =>
        have H := HA.out
        clear HA
        simp only [spec_ApplyOps.l0] at H
        by_cases c9 : x8_3 < (l2.length : Int)
        ·rw [if_pos c9] at H
         have c9b0 : decide (x8_3 < (l2.length : Int)) = true := decide_eq_true c9
         clear c9
         replace H := Option.bind_eq_some_iff.mp H
         obtain ⟨⟨t166, t167⟩, A100, H⟩ := H
         replace H : (if 0 ≤ x8_3 then ((spec_OpOk.f k3 t166 t167 ((rd_T60 l2 x8_3).f0) ((rd_T60 l2 x8_3).f1) ((rd_T60 l2 x8_3).f2)).bind fun t169 => (if t169 = true then ((spec_ApplyOp.f k3 x0_3 x1_3 ((rd_T60 l2 x8_3).f0) ((rd_T60 l2 x8_3).f1) ((rd_T60 l2 x8_3).f2)).bind fun bt171 => (spec_ApplyOps.l0 k3 bt171.1 bt171.2 l2 (wrap64 (x8_3 + 1)))) else (some ((⟨#[]⟩ : ByteArray), false)))) else (none)) = some (r1, r2) := H
         have A10 := am A100
         clear A100
         by_cases c11 : 0 ≤ x8_3
         ·rw [if_pos c11] at H
          have c11b0 : decide (0 ≤ x8_3) = true := decide_eq_true c11
          clear c11
          replace H := Option.bind_eq_some_iff.mp H
          obtain ⟨t169, A120, H⟩ := H
          replace H : (if t169 = true then ((spec_ApplyOp.f k3 x0_3 x1_3 ((rd_T60 l2 x8_3).f0) ((rd_T60 l2 x8_3).f1) ((rd_T60 l2 x8_3).f2)).bind fun bt171 => (spec_ApplyOps.l0 k3 bt171.1 bt171.2 l2 (wrap64 (x8_3 + 1)))) else (some ((⟨#[]⟩ : ByteArray), false))) = some (r1, r2) := H
          have A12 := am A120
          clear A120
          by_cases c13 : t169 = true
          ·subst c13
           have H1 : ((spec_ApplyOp.f k3 x0_3 x1_3 ((rd_T60 l2 x8_3).f0) ((rd_T60 l2 x8_3).f1) ((rd_T60 l2 x8_3).f2)).bind fun bt171 => (spec_ApplyOps.l0 k3 bt171.1 bt171.2 l2 (wrap64 (x8_3 + 1)))) = some (r1, r2) := by rw [if_pos rfl] at H; exact H
           clear H
           have H := H1
           clear H1
           replace H := Option.bind_eq_some_iff.mp H
           obtain ⟨⟨t171, t172⟩, A140, H⟩ := H
           replace H : (spec_ApplyOps.l0 k3 t171 t172 l2 (wrap64 (x8_3 + 1))) = some (r1, r2) := H
           have A14 := am A140
           clear A140
           have H' := am H
           clear H
           try go_wp2
           have n0_ := am (bd1 HB.out)
           clear HB
           have HB := n0_
           clear n0_
           have p168 : 0 ≤ (x8_3 : Int) := of_decide_eq_true (by first | (with_reducible assumption) | assumption)
           have q168 : x8_3 < (l2.length : Int) := of_decide_eq_true (by first | (with_reducible assumption) | assumption)
           obtain ⟨ad168, e168, hx168_0, hx168_1, hx168_2⟩ := at_T60 HR2.out x8_3 p168 q168
           have hw168_2 := hx168_2
           have hw168_1 := hx168_1
           have hw168_0 := hx168_0
           cases e168
           replace hx168_0 := (HB.out.cell (blc w _ hx168_0)).trans hx168_0
           replace hx168_1 := (HB.out.cell (blc w _ hx168_1)).trans hx168_1
           replace hx168_2 := (HB.out.cell (blc w _ hx168_2)).trans hx168_2
           replace p168 := eq_true p168
           replace q168 := eq_true q168
           refine start_ (n := 7) (S := fun w' => w'.cell? (ad168.add ((x8_3).toNat * 3)) = some (.int .i64 ((rd_T60 l2 x8_3).f0)) ∧ w'.cell? ⟨(ad168.add ((x8_3).toNat * 3)).block, (ad168.add ((x8_3).toNat * 3)).off + 1, none⟩ = some (.int .i64 ((rd_T60 l2 x8_3).f1)) ∧ w'.cell? ⟨(ad168.add ((x8_3).toNat * 3)).block, (ad168.add ((x8_3).toNat * 3)).off + 2, none⟩ = some (.string ((rd_T60 l2 x8_3).f2))) (ds := []) #[false, false, false, false, false, false, false] (by kernel_rfl) rfl rfl ⟨((HB.out.cell (blc w _ hw168_0)).trans hw168_0), ((HB.out.cell (blc w _ hw168_1)).trans hw168_1), ((HB.out.cell (blc w _ hw168_2)).trans hw168_2)⟩ (fun hHeld => ?_)
           generalize wr.drew = w15 at HB hx168_0 hx168_1 hx168_2 hHeld ⊢
           refine pure_ (i := 1) (N := some 26) (v := ?_) (a' := ?_) #[false, true, false, false, false, false, false] rfl rfl (by kernel_rfl) (fun _ _ _ h => h) (Or.inl ⟨by rfl, ?_⟩) ?_ ?_
           rotate_left
           ·intro w'
            go_simp
            with_reducible rfl
           rotate_left
           ·simp only [Act.put, sit, scz, scs, i64_w, i32_w]
            rfl
           refine pure_ (i := 2) (N := some 27) (v := ?_) (a' := ?_) #[false, true, true, false, false, false, false] rfl rfl (by kernel_rfl) (fun _ _ _ h => h) (Or.inl ⟨by rfl, ?_⟩) ?_ ?_
           rotate_left
           ·intro w'
            go_simp
            with_reducible rfl
           rotate_left
           ·simp only [Act.put, sit, scz, scs, i64_w, i32_w]
            rfl
           refine pure_ (i := 3) (N := some 28) (v := ?_) (a' := ?_) #[false, true, true, true, false, false, false] rfl rfl (by kernel_rfl) (fun _ _ _ h => h) (Or.inl ⟨by rfl, ?_⟩) ?_ ?_
           rotate_left
           ·intro w'
            go_simp
            with_reducible rfl
           rotate_left
           ·simp only [Act.put, sit, scz, scs, i64_w, i32_w]
            rfl
           refine take_ (i := 4) (N := some 29) (v := ?_) (a' := ?_) #[false, true, true, true, true, false, false] rfl rfl (by kernel_rfl) (fun _ _ _ h => h) (Or.inl ⟨by rfl, ?_⟩) hHeld ?_ ?_
           rotate_left
           ·rintro w' ⟨s0, s1, s2⟩
            go_simp
            with_reducible rfl
           rotate_left
           ·simp only [Act.put, sit, scz, scs, i64_w, i32_w]
            rfl
           refine one_ (i := 0) (N := some 25) #[true, true, true, true, true, false, false] rfl rfl (by kernel_rfl) (by decide) (fun K hK => ?_)
           refine goes_ Try.func83 (by kernel_rfl) rfl #[] (by rfl) rfl rfl (by (try simp only [mta, mco, mni]); first | done | rfl | (simp only [lnd, lnt]; rfl)) ?_
           with_reducible refine (spec_l16Plain.calls  t166 t167 _ A10.out).mono ?_
           rintro e w16 ⟨rfl, hb⟩
           refine ⟨_, rfl, ?_⟩
           have n0_ := am (below_step (by repeat (first | (with_reducible first | exact HB.out | apply bal | apply pdn | apply bd1) | exact HB.out)) hb)
           clear HB
           have HB := n0_
           clear n0_
           refine hK.out _ _ ⟨((HB.out.cell (blc w _ hw168_0)).trans hw168_0), ((HB.out.cell (blc w _ hw168_1)).trans hw168_1), ((HB.out.cell (blc w _ hw168_2)).trans hw168_2)⟩ (fun hHeld => ?_)
           clear hK K
           refine norm_ (a' := ?_) ?_ ?_
           rotate_left
           ·show Act.put _ (some 25) _ = _
            simp only [Act.put, sit, scz, scs, i64_w, i32_w]
            rfl
           refine one_ (i := 5) (N := some 30) #[true, true, true, true, true, true, false] rfl rfl (by kernel_rfl) (by decide) (fun K hK => ?_)
           refine goes_ Try.func53 (by kernel_rfl) rfl #[.agg #[.int .i64 t166, .int .i64 t167], .agg #[.int .i64 ((rd_T60 l2 x8_3).f0), .int .i64 ((rd_T60 l2 x8_3).f1), .string ((rd_T60 l2 x8_3).f2)]] (by rfl) rfl rfl (by (try simp only [mta, mco, mni]); first | done | rfl | (simp only [lnd, lnt]; rfl)) ?_
           with_reducible refine (spec_OpOk.calls k3 t166 t167 ((rd_T60 l2 x8_3).f0) ((rd_T60 l2 x8_3).f1) ((rd_T60 l2 x8_3).f2) true _ A12.out).mono ?_
           rintro e w17 ⟨rfl, hb⟩
           refine ⟨_, rfl, ?_⟩
           have n0_ := am (below_step (by repeat (first | (with_reducible first | exact HB.out | apply bal | apply pdn | apply bd1) | exact HB.out)) hb)
           clear HB
           have HB := n0_
           clear n0_
           refine hK.out _ _ ⟨((HB.out.cell (blc w _ hw168_0)).trans hw168_0), ((HB.out.cell (blc w _ hw168_1)).trans hw168_1), ((HB.out.cell (blc w _ hw168_2)).trans hw168_2)⟩ (fun hHeld => ?_)
           clear hK K
           refine norm_ (a' := ?_) ?_ ?_
           rotate_left
           ·show Act.put _ (some 30) _ = _
            simp only [Act.put, sit, scz, scs, i64_w, i32_w]
            rfl
           refine pure_ (i := 6) (N := some 31) (v := ?_) (a' := ?_) #[true, true, true, true, true, true, true] rfl rfl (by kernel_rfl) (fun _ _ _ h => h) (Or.inl ⟨by rfl, ?_⟩) ?_ ?_
           rotate_left
           ·intro w'
            go_simp
            with_reducible rfl
           rotate_left
           ·simp only [Act.put, sit, scz, scs, i64_w, i32_w]
            rfl
           refine done_ (by kernel_rfl) ?_
           have p170 : 0 ≤ (x8_3 : Int) := of_decide_eq_true (by first | (with_reducible assumption) | assumption)
           have q170 : x8_3 < (l2.length : Int) := of_decide_eq_true (by first | (with_reducible assumption) | assumption)
           obtain ⟨ad170, e170, hx170_0, hx170_1, hx170_2⟩ := at_T60 HR2.out x8_3 p170 q170
           obtain rfl : ad168 = ad170 := (by injection e170)
           replace hx170_0 := (HB.out.cell (blc w _ hx170_0)).trans hx170_0
           replace hx170_1 := (HB.out.cell (blc w _ hx170_1)).trans hx170_1
           replace hx170_2 := (HB.out.cell (blc w _ hx170_2)).trans hx170_2
           replace p170 := eq_true p170
           replace q170 := eq_true q170
           try go_wp2_with (first | ((with_reducible refine gate_callee (f := 43) rfl ?_); refine goesL_ (some 39) rfl rfl Try.func43 (by kernel_rfl) rfl #[.string x0_3, .bool x1_3, .agg #[.int .i64 ((rd_T60 l2 x8_3).f0), .int .i64 ((rd_T60 l2 x8_3).f1), .string ((rd_T60 l2 x8_3).f2)]] rfl (by (try simp only [mta, mco, mni]); first | done | rfl | (simp only [lnd, lnt]; rfl)) ?_; (with_reducible refine (spec_ApplyOp.calls k3 x0_3 x1_3 ((rd_T60 l2 x8_3).f0) ((rd_T60 l2 x8_3).f1) ((rd_T60 l2 x8_3).f2) t171 t172 _ A14.out).mono ?_); rintro e w18 ⟨rfl, hb⟩; refine ⟨_, rfl, ?_⟩; have n0_ := am (below_step (by repeat (first | (with_reducible first | exact HB.out | apply bal | apply pdn | apply bd1) | exact HB.out)) hb); clear HB; have HB := n0_; clear n0_; (try clear hb); (try clear hb2); (try clear hk); (try clear hi)))
           go_roundg k3
           case measure => have := HJ3.out; have := HJ6.out; have := HK3.out; omega
           case rel => exact ⟨(t171), (t172), (wrap64 (x8_3 + 1)), (by first | rfl | (simp; done) | (simp [*]; done)), (by first | rfl | (simp; done) | (simp [*]; done)), (by first | rfl | (simp; done) | (simp [*]; done)), H', ⟨by have := HJ3.out; have := HJ6.out; have := HK3.out; omega⟩, ⟨by repeat (first | (with_reducible first | exact HB.out | apply bal | apply pdn | apply bd1) | exact HB.out)⟩⟩
          ·replace c13 := Bool.eq_false_iff.mpr c13
           subst c13
           have H1 : (some ((⟨#[]⟩ : ByteArray), false)) = some (r1, r2) := by rw [if_neg (show ¬ (false = true) by decide)] at H; exact H
           clear H
           have H := H1
           clear H1
           simp only [Option.some.injEq, Prod.mk.injEq] at H
           obtain ⟨rfl, rfl⟩ := H
           try go_wp2
           have n0_ := am (bd1 HB.out)
           clear HB
           have HB := n0_
           clear n0_
           have p168 : 0 ≤ (x8_3 : Int) := of_decide_eq_true (by first | (with_reducible assumption) | assumption)
           have q168 : x8_3 < (l2.length : Int) := of_decide_eq_true (by first | (with_reducible assumption) | assumption)
           obtain ⟨ad168, e168, hx168_0, hx168_1, hx168_2⟩ := at_T60 HR2.out x8_3 p168 q168
           have hw168_2 := hx168_2
           have hw168_1 := hx168_1
           have hw168_0 := hx168_0
           cases e168
           replace hx168_0 := (HB.out.cell (blc w _ hx168_0)).trans hx168_0
           replace hx168_1 := (HB.out.cell (blc w _ hx168_1)).trans hx168_1
           replace hx168_2 := (HB.out.cell (blc w _ hx168_2)).trans hx168_2
           replace p168 := eq_true p168
           replace q168 := eq_true q168
           refine start_ (n := 7) (S := fun w' => w'.cell? (ad168.add ((x8_3).toNat * 3)) = some (.int .i64 ((rd_T60 l2 x8_3).f0)) ∧ w'.cell? ⟨(ad168.add ((x8_3).toNat * 3)).block, (ad168.add ((x8_3).toNat * 3)).off + 1, none⟩ = some (.int .i64 ((rd_T60 l2 x8_3).f1)) ∧ w'.cell? ⟨(ad168.add ((x8_3).toNat * 3)).block, (ad168.add ((x8_3).toNat * 3)).off + 2, none⟩ = some (.string ((rd_T60 l2 x8_3).f2))) (ds := []) #[false, false, false, false, false, false, false] (by kernel_rfl) rfl rfl ⟨((HB.out.cell (blc w _ hw168_0)).trans hw168_0), ((HB.out.cell (blc w _ hw168_1)).trans hw168_1), ((HB.out.cell (blc w _ hw168_2)).trans hw168_2)⟩ (fun hHeld => ?_)
           generalize wr.drew = w19 at HB hx168_0 hx168_1 hx168_2 hHeld ⊢
           refine pure_ (i := 1) (N := some 26) (v := ?_) (a' := ?_) #[false, true, false, false, false, false, false] rfl rfl (by kernel_rfl) (fun _ _ _ h => h) (Or.inl ⟨by rfl, ?_⟩) ?_ ?_
           rotate_left
           ·intro w'
            go_simp
            with_reducible rfl
           rotate_left
           ·simp only [Act.put, sit, scz, scs, i64_w, i32_w]
            rfl
           refine pure_ (i := 2) (N := some 27) (v := ?_) (a' := ?_) #[false, true, true, false, false, false, false] rfl rfl (by kernel_rfl) (fun _ _ _ h => h) (Or.inl ⟨by rfl, ?_⟩) ?_ ?_
           rotate_left
           ·intro w'
            go_simp
            with_reducible rfl
           rotate_left
           ·simp only [Act.put, sit, scz, scs, i64_w, i32_w]
            rfl
           refine pure_ (i := 3) (N := some 28) (v := ?_) (a' := ?_) #[false, true, true, true, false, false, false] rfl rfl (by kernel_rfl) (fun _ _ _ h => h) (Or.inl ⟨by rfl, ?_⟩) ?_ ?_
           rotate_left
           ·intro w'
            go_simp
            with_reducible rfl
           rotate_left
           ·simp only [Act.put, sit, scz, scs, i64_w, i32_w]
            rfl
           refine take_ (i := 4) (N := some 29) (v := ?_) (a' := ?_) #[false, true, true, true, true, false, false] rfl rfl (by kernel_rfl) (fun _ _ _ h => h) (Or.inl ⟨by rfl, ?_⟩) hHeld ?_ ?_
           rotate_left
           ·rintro w' ⟨s0, s1, s2⟩
            go_simp
            with_reducible rfl
           rotate_left
           ·simp only [Act.put, sit, scz, scs, i64_w, i32_w]
            rfl
           refine one_ (i := 0) (N := some 25) #[true, true, true, true, true, false, false] rfl rfl (by kernel_rfl) (by decide) (fun K hK => ?_)
           refine goes_ Try.func83 (by kernel_rfl) rfl #[] (by rfl) rfl rfl (by (try simp only [mta, mco, mni]); first | done | rfl | (simp only [lnd, lnt]; rfl)) ?_
           with_reducible refine (spec_l16Plain.calls  t166 t167 _ A10.out).mono ?_
           rintro e w20 ⟨rfl, hb⟩
           refine ⟨_, rfl, ?_⟩
           have n0_ := am (below_step (by repeat (first | (with_reducible first | exact HB.out | apply bal | apply pdn | apply bd1) | exact HB.out)) hb)
           clear HB
           have HB := n0_
           clear n0_
           refine hK.out _ _ ⟨((HB.out.cell (blc w _ hw168_0)).trans hw168_0), ((HB.out.cell (blc w _ hw168_1)).trans hw168_1), ((HB.out.cell (blc w _ hw168_2)).trans hw168_2)⟩ (fun hHeld => ?_)
           clear hK K
           refine norm_ (a' := ?_) ?_ ?_
           rotate_left
           ·show Act.put _ (some 25) _ = _
            simp only [Act.put, sit, scz, scs, i64_w, i32_w]
            rfl
           refine one_ (i := 5) (N := some 30) #[true, true, true, true, true, true, false] rfl rfl (by kernel_rfl) (by decide) (fun K hK => ?_)
           refine goes_ Try.func53 (by kernel_rfl) rfl #[.agg #[.int .i64 t166, .int .i64 t167], .agg #[.int .i64 ((rd_T60 l2 x8_3).f0), .int .i64 ((rd_T60 l2 x8_3).f1), .string ((rd_T60 l2 x8_3).f2)]] (by rfl) rfl rfl (by (try simp only [mta, mco, mni]); first | done | rfl | (simp only [lnd, lnt]; rfl)) ?_
           with_reducible refine (spec_OpOk.calls k3 t166 t167 ((rd_T60 l2 x8_3).f0) ((rd_T60 l2 x8_3).f1) ((rd_T60 l2 x8_3).f2) false _ A12.out).mono ?_
           rintro e w21 ⟨rfl, hb⟩
           refine ⟨_, rfl, ?_⟩
           have n0_ := am (below_step (by repeat (first | (with_reducible first | exact HB.out | apply bal | apply pdn | apply bd1) | exact HB.out)) hb)
           clear HB
           have HB := n0_
           clear n0_
           refine hK.out _ _ ⟨((HB.out.cell (blc w _ hw168_0)).trans hw168_0), ((HB.out.cell (blc w _ hw168_1)).trans hw168_1), ((HB.out.cell (blc w _ hw168_2)).trans hw168_2)⟩ (fun hHeld => ?_)
           clear hK K
           refine norm_ (a' := ?_) ?_ ?_
           rotate_left
           ·show Act.put _ (some 30) _ = _
            simp only [Act.put, sit, scz, scs, i64_w, i32_w]
            rfl
           refine pure_ (i := 6) (N := some 31) (v := ?_) (a' := ?_) #[true, true, true, true, true, true, true] rfl rfl (by kernel_rfl) (fun _ _ _ h => h) (Or.inl ⟨by rfl, ?_⟩) ?_ ?_
           rotate_left
           ·intro w'
            go_simp
            with_reducible rfl
           rotate_left
           ·simp only [Act.put, sit, scz, scs, i64_w, i32_w]
            rfl
           refine done_ (by kernel_rfl) ?_
           try go_wp2
           go_ret2
           exact ⟨by first | rfl | (simp [errW_none, errW_some] <;> rfl) | (simp [*, errW_none, errW_some] <;> rfl), by repeat (first | (with_reducible first | exact HB.out | apply bal | apply pdn | apply bd1) | exact HB.out)⟩
         ·rw [if_neg c11] at H
          exact absurd H (by simp)
        ·rw [if_neg c9] at H
         have c9b0 : decide (x8_3 < (l2.length : Int)) = false := decide_eq_false c9
         clear c9
         simp only [Option.some.injEq, Prod.mk.injEq] at H
         obtain ⟨rfl, rfl⟩ := H
         go_wp2
         go_ret2
         exact ⟨by first | rfl | (simp [errW_none, errW_some] <;> rfl) | (simp [*, errW_none, errW_some] <;> rfl), by repeat (first | (with_reducible first | exact HB.out | apply bal | apply pdn | apply bd1) | exact HB.out)⟩

/-! ### strings_Repeat: function 128 -/
open Go.Shelf Go.Lib in
shelf_lay Lays.n105 Nm 105 at Try as strings_Repeat_lays
open Go.Shelf Go.Lib in
theorem strings_Repeat.extra : Builder.Extra Try.prog strings_Repeat_lays_ren where
 sizeBuilder := by kernel_rfl
 liesBuilder := by kernel_rfl
 t5 := strings_Repeat_lays.t5
 a5 := strings_Repeat_lays.a5
 z5 := strings_Repeat_lays.z5
 v5 := strings_Repeat_lays.v5
 infoByte := by kernel_rfl
 cellsByte := by kernel_rfl
 sizeByte := by kernel_rfl
 neB5 := by decide
theorem strings_Repeat.num : strings_Repeat_lays_ren.f 105 = 128 := by kernel_rfl
def strings_Repeat.f (a0 : ByteArray) (a1 : Int) : Option (ByteArray) := if 0 ≤ a1 ∧ a0.size * a1.toNat ≤ 1000000 ∧ a1 ≤ 1000000 then some ⟨(Go.Lib.repeatL a0.data.toList a1.toNat).toArray⟩ else none
theorem strings_Repeat.calls (a0 : ByteArray) (a1 : Int) (r : ByteArray) (w : World) (h : strings_Repeat.f a0 a1 = some r) :
  Calls Try.prog 128 #[.string a0, .int .i64 a1] w fun e w' => e = .returned (.string r) ∧ Below w.heap.size w w' := by
 unfold strings_Repeat.f at h
 split at h
 ·rename_i hc
  obtain rfl := Option.some.inj h
  have h1 := Go.Proofs.Any.strings_Repeat strings_Repeat_lays strings_Repeat.extra a0 a1.toNat w (by omega) (by omega)
  rw [strings_Repeat.num, Int.toNat_of_nonneg hc.1] at h1
  exact h1
 ·cases h

/-! ### impl_overwritten: function 122 -/
def impl_overwritten.f (body : ByteArray) (a : Int) (bytes : ByteArray) : Option (ByteArray) :=
 if 0 ≤ a ∧ a ≤ 64 ∧ body.size ≤ 64 ∧ bytes.size ≤ 64 then some ⟨(spec_l16Lay.lay (spec_l16Lay.pad body.data.toList a.toNat) bytes.data.toList a.toNat (min bytes.size (64 - a.toNat))).toArray⟩ else none
theorem impl_overwritten.ext {r : ByteArray} {L : List UInt8} (h : r.data.toList = L) : r = ⟨L.toArray⟩ := by
 apply ByteArray.ext
 show r.data = L.toArray
 rw [← h, Array.toArray_toList]
theorem impl_overwritten.app (a b : ByteArray) : (a ++ b).data.toList = a.data.toList ++ b.data.toList := by simp
theorem impl_overwritten.ex (a : ByteArray) (i j : Nat) : (a.extract i j).data.toList = (a.data.toList.drop i).take (j - i) := by simp
theorem impl_overwritten.len (a : ByteArray) : a.data.toList.length = a.size := by simp
theorem impl_overwritten.rep (n : Nat) : Go.Lib.repeatL ([0] : List UInt8) n = List.replicate n 0 := by
 have := Go.Lib.repeatL_replicate (0 : UInt8) 1 n
 simpa using this
theorem impl_overwritten.short (P X R : ByteArray) (a : Nat) (hP : P.size ≤ 64) (ha : a ≤ P.size) (h : a + X.size < P.size) (hR : R.data.toList = P.data.toList.take a ++ X.data.toList ++ P.data.toList.drop (a + X.size)) (hs : R.size = P.size) :
  R.extract 0 P.size = ⟨(spec_l16Lay.lay P.data.toList X.data.toList a (min X.size (64 - a))).toArray⟩ := by
 have hlP := impl_overwritten.len P
 have hlX := impl_overwritten.len X
 apply impl_overwritten.ext
 rw [impl_overwritten.ex, hR, show min X.size (64 - a) = X.size from by omega]
 unfold spec_l16Lay.lay
 rw [List.drop_zero, List.take_of_length_le (by simp; omega), List.take_of_length_le (l := X.data.toList) (by omega)]
theorem impl_overwritten.long (P X O : ByteArray) (a : Nat) (hP : P.size ≤ 64) (ha : a ≤ P.size) (h : ¬ a + X.size < P.size) (hO : O.data.toList = P.data.toList.take a ++ X.data.toList) :
  O.extract 0 (min (a + X.size) 64) = ⟨(spec_l16Lay.lay P.data.toList X.data.toList a (min X.size (64 - a))).toArray⟩ := by
 have hlP := impl_overwritten.len P
 have hlX := impl_overwritten.len X
 apply impl_overwritten.ext
 rw [impl_overwritten.ex, hO]
 unfold spec_l16Lay.lay
 rw [List.drop_zero, Nat.sub_zero, List.drop_of_length_le (by omega), List.append_nil, List.take_append, List.take_of_length_le (by simp; omega)]
 congr 1
 rw [lnt, show min (a + X.size) 64 - min a P.data.toList.length = min X.size (64 - a) from by omega]
set_option maxHeartbeats 4000000 in
set_option maxRecDepth 100000 in
theorem impl_overwritten.calls (a0 : ByteArray) (a1 : Int) (a2 : ByteArray) (r : ByteArray) (w : World) (h : impl_overwritten.f a0 a1 a2 = some r) :
  Calls Try.prog 122 #[.string a0, .int .i64 a1, .string a2] w fun e w' => e = .returned (.string r) ∧ Below w.heap.size w w' := by
 unfold impl_overwritten.f at h
 split at h
 case isFalse => cases h
 rename_i hc
 obtain ⟨hc0, hc1, hc2, hc3⟩ := hc
 obtain ⟨a, rfl⟩ := Int.eq_ofNat_of_zero_le hc0
 rw [Int.toNat_natCast] at h
 have HR := am (Option.some.inj h)
 clear h hc0
 have HL0 := am (impl_overwritten.len a0)
 have HWR : Aside0 (wrap64 ((a : Int) - (a0.size : Int)) = (a : Int) - (a0.size : Int)) := ⟨by unfold wrap64; omega⟩
 go_enter Try.func122, Try.ntmps122
 go_upto_if 14 with fail
 go_cut [0] (fun s0 wx => ∃ P : ByteArray, s0 = .string P ∧ Aside0 (P.data.toList = spec_l16Lay.pad a0.data.toList a ∧ P.size ≤ 64 ∧ a ≤ P.size) ∧ Aside0 (Below w.heap.size w wx))
 case first =>
  by_cases hp : (0 : Int) < (a : Int) - (a0.size : Int)
  ·have hpb : decide (a0.size < a) = true := decide_eq_true (by omega)
   obtain ⟨t, ht⟩ : ∃ t : ByteArray, strings_Repeat.f (⟨#[0]⟩ : ByteArray) ((a : Int) - (a0.size : Int)) = some t ∧ t.data.toList = List.replicate (a - a0.size) 0 := by
    unfold strings_Repeat.f
    have e1 : (⟨#[0]⟩ : ByteArray).size = 1 := rfl
    have e2 : (⟨#[0]⟩ : ByteArray).data.toList = [0] := rfl
    rw [if_pos ⟨by omega, by rw [e1]; omega, by omega⟩, e2, impl_overwritten.rep, show ((a : Int) - (a0.size : Int)).toNat = a - a0.size from by omega]
    exact ⟨_, rfl, by simp⟩
   have hts : t.size = a - a0.size := by rw [← impl_overwritten.len, ht.2]; simp
   have HT := am ht
   have hadd : (9223372036854775807 < a0.size + t.size) = False := eq_false (by omega)
   have hadd1 : decide (a0.size + t.size ≤ 9223372036854775807) = true := decide_eq_true (by omega)
   have hadd2 : (a0.size + t.size ≤ 9223372036854775807) = True := eq_true (by omega)
   have HTS := am hts
   clear ht hts
   go_wp2_with (go_at_call 128; refine (strings_Repeat.calls _ _ t _ HT.out.1).mono ?_; rintro e w' ⟨rfl, hb⟩; have HB := am hb; clear hb)
   go_meet
   have hl := HL0.out
   refine ⟨_, rfl, ⟨?_, ?_, ?_⟩, HB⟩
   ·rw [impl_overwritten.app, HT.out.2]
    unfold spec_l16Lay.pad
    rw [hl]
   ·rw [ByteArray.size_append, HTS.out]; omega
   ·rw [ByteArray.size_append, HTS.out]; omega
  ·have hpb : decide (a0.size < a) = false := decide_eq_false (by omega)
   go_wp2
   go_meet
   have hl := HL0.out
   refine ⟨_, rfl, ⟨?_, hc2, by omega⟩, ⟨Below.refl _ _⟩⟩
   unfold spec_l16Lay.pad
   rw [show a - a0.data.toList.length = 0 from by omega, List.replicate_zero, List.append_nil]
 case rest =>
  obtain ⟨P, rfl, HP, HB⟩ := hcut
  have hP := HP.out
  have hq0 : ((0 : Int) ≤ (a : Int)) = True := eq_true (by omega)
  have hq1 : ((a : Int) ≤ (P.size : Int)) = True := eq_true (by omega)
  have hq2 : (a ≤ P.size) = True := eq_true hP.2.2
  have hs0 : (P.extract 0 a).size = a := by rw [ByteArray.size_extract]; omega
  have hadd : (9223372036854775807 < (P.extract 0 a).size + a2.size) = False := eq_false (by omega)
  have hadd2 : ((P.extract 0 a).size + a2.size ≤ 9223372036854775807) = True := eq_true (by omega)
  have hd : ((P.extract 0 a) ++ a2).data.toList = P.data.toList.take a ++ a2.data.toList := by rw [impl_overwritten.app, impl_overwritten.ex]; simp
  have hs : ((P.extract 0 a) ++ a2).size = a + a2.size := by rw [ByteArray.size_append, hs0]
  have HD := am hd
  have HS := am hs
  clear hd hs hP hs0
  go_upto_if 28 with fail
  generalize P.extract 0 a ++ a2 = O at HD HS ⊢
  have hP := HP.out
  by_cases h : a + a2.size < P.size
  ·have hlt : decide ((a : Int) + (a2.size : Int) < (P.size : Int)) = true := decide_eq_true (by omega)
   have hlt1 : (a + a2.size < P.size) = True := eq_true h
   have hlt2 : decide (a + a2.size < P.size) = true := decide_eq_true h
   have hr1 : (O.size ≤ P.size) = True := eq_true (by have := HS.out; omega)
   have hr2 : (9223372036854775807 < P.size) = False := eq_false (by omega)
   have hr3 : (64 < (P.size : Int)) = False := eq_false (by omega)
   have HF : Aside0 ((O ++ P.extract O.size P.size).extract 0 P.size = r) := ⟨by
    rw [impl_overwritten.short P a2 _ a hP.2.1 hP.2.2 h (by rw [impl_overwritten.app, impl_overwritten.ex, HD.out, HS.out, List.take_of_length_le (l := P.data.toList.drop (a + a2.size)) (by simp)]) (by rw [ByteArray.size_append, ByteArray.size_extract]; have := HS.out; omega), hP.1]
    exact HR.out⟩
   clear hP h
   go_wp2
   ·go_ret
    exact ⟨by rw [← HF.out] <;> rfl, HB.out⟩
   all_goals (exfalso; have q := of_decide_eq_true hlt2; omega)
  ·have hlt : decide ((a : Int) + (a2.size : Int) < (P.size : Int)) = false := decide_eq_false (by omega)
   have hlt1 : (a + a2.size < P.size) = False := eq_false h
   have hlt2 : decide (a + a2.size < P.size) = false := decide_eq_false h
   have HF : Aside0 (O.extract 0 (min (a + a2.size) 64) = r) := ⟨by
    rw [impl_overwritten.long P a2 O a hP.2.1 hP.2.2 h HD.out, hP.1]
    exact HR.out⟩
   clear hP
   by_cases h64 : 64 < O.size
   ·have hr3 : (64 < (O.size : Int)) = True := eq_true (by omega)
    have hr4 : (64 ≤ O.size) = True := eq_true (by omega)
    have HF2 : Aside0 (O.extract 0 64 = r) := ⟨by rw [← HF.out]; congr 1; have := HS.out; omega⟩
    go_wp2
    go_ret
    exact ⟨by rw [← HF2.out] <;> rfl, HB.out⟩
   ·have hr3 : (64 < (O.size : Int)) = False := eq_false (by omega)
    have HF2 : Aside0 (O = r) := ⟨by rw [← HF.out, show min (a + a2.size) 64 = O.size from by have := HS.out; omega]; simp⟩
    go_wp2
    go_ret
    exact ⟨by rw [← HF2.out] <;> rfl, HB.out⟩

/-! ### impl_Op_apply: function 96 -/
def impl_Op_apply.j0 : Nat → ByteArray → Bool → Int → Int → ByteArray → Option (ByteArray × Bool)
 | 0, _, _, _, _, _ => none
 | k + 1, x1, x2, x174000, x174001, x174002 => if x174000 = 2 then (some (x174002, true)) else (if x174000 = 3 then ((impl_overwritten.f x1 x174001 x174002).bind fun t174 => (some (t174, true))) else (if x174000 = 4 then ((impl_overwritten.f x1 (x1.size : Int) x174002).bind fun t175 => (some (t175, true))) else (if x174000 = 5 then (if 0 ≤ (mn (x1.size : Int) x174001) then (if (mn (x1.size : Int) x174001) ≤ (x1.size : Int) then (some (x1.extract 0 ((mn (x1.size : Int) x174001) : Int).toNat, x2)) else (none)) else (none)) else (if x174000 = 6 then (some ((⟨#[]⟩ : ByteArray), false)) else (some (x1, x2))))))
def impl_Op_apply.f (k : Nat) (a0_0 : Int) (a0_1 : Int) (a0_2 : ByteArray) (a1 : ByteArray) (a2 : Bool) : Option (ByteArray × Bool) := if a2 = true then (impl_Op_apply.j0 k a1 a2 a0_0 a0_1 a0_2) else (impl_Op_apply.j0 k (⟨#[]⟩ : ByteArray) a2 a0_0 a0_1 a0_2)
theorem impl_Op_apply.mono_l : ∀ k, (∀ y0 y1 y2 y3 y4, LeO (impl_Op_apply.j0 k y0 y1 y2 y3 y4) (impl_Op_apply.j0 (k + 1) y0 y1 y2 y3 y4))
 | 0 => fun _ _ _ _ _ r h => by simp [impl_Op_apply.j0] at h
 | k + 1 => by
  have ih0 := impl_Op_apply.mono_l k
  ·intro y0 y1 y2 y3 y4
   unfold impl_Op_apply.j0
   repeat' first
   | (with_reducible exact ih0 _ _ _ _ _)
   | (with_reducible exact LeO.refl _)
   | (with_reducible exact LeO.none _)
   | (with_reducible refine LeO.ite ?_ ?_)
   | (with_reducible refine LeO.bind ?_ (fun _ => ?_))
   | exact ih0 _ _ _ _ _
   | exact LeO.none _
   | refine LeO.ite ?_ ?_
   | refine LeO.bind ?_ (fun _ => ?_)
theorem impl_Op_apply.mono : ∀ a0 a1 a2 a3 a4 k, LeO (impl_Op_apply.f k a0 a1 a2 a3 a4) (impl_Op_apply.f (k + 1) a0 a1 a2 a3 a4) := by
 intro a0 a1 a2 a3 a4 k
 have ih0 := impl_Op_apply.mono_l k
 unfold impl_Op_apply.f
 repeat' first
   | (with_reducible exact ih0 _ _ _ _ _)
   | (with_reducible exact LeO.refl _)
   | (with_reducible exact LeO.none _)
   | (with_reducible refine LeO.ite ?_ ?_)
   | (with_reducible refine LeO.bind ?_ (fun _ => ?_))
   | exact ih0 _ _ _ _ _
   | exact LeO.none _
   | refine LeO.ite ?_ ?_
   | refine LeO.bind ?_ (fun _ => ?_)
set_option maxHeartbeats 8000000 in
set_option maxRecDepth 100000 in
theorem impl_Op_apply.calls (k : Nat) (a0_0 : Int) (a0_1 : Int) (a0_2 : ByteArray) (a1 : ByteArray) (a2 : Bool) (r1 : ByteArray) (r2 : Bool) (w : World) (h : impl_Op_apply.f k a0_0 a0_1 a0_2 a1 a2 = some (r1, r2)) :
  Calls Try.prog 96 #[.agg #[.int .i64 a0_0, .int .i64 a0_1, .string a0_2], .string a1, .bool a2] w fun e w' => e = .returned (.tuple #[.string r1, .bool r2]) ∧ Below w.heap.size w w' := by
 have hu60 := Try.underlying60
 have HB := am (Below.refl w.heap.size w)
 have H : (if a2 = true then (impl_Op_apply.j0 k a1 a2 a0_0 a0_1 a0_2) else (impl_Op_apply.j0 k (⟨#[]⟩ : ByteArray) a2 a0_0 a0_1 a0_2)) = some (r1, r2) := h
 clear h
 have HC4 := am H
 clear H
 go_enter Try.func96, Try.ntmps96
 go_upto_if 9 with (first | ((with_reducible refine gate_dst (N := 3) rfl ?_); refine box_event ?hg (N := 3) ?hd (cs := #[.int .i64 a0_0, .int .i64 a0_1, .string a0_2]) (t := 60) ?hr ?_; (case hd => rfl); (case hg => rfl); (case hr => first | (go_simp; done) | (go_simp; rfl)); intro gb173 hg w5 hbox hb; have n0_ := am (below_step (by repeat (first | (with_reducible first | exact HB.out | apply bal | apply pdn | apply bd1) | exact HB.out)) hb); have n1_ := am (hbox); have n2_ := am ((by rw [hg]; exact (below_size (by repeat (first | (with_reducible first | exact HB.out | apply bal | apply pdn | apply bd1) | exact HB.out))) : w.heap.size ≤ gb173)); have n3_ := am ((by rw [hg]; exact (below_size (by repeat (first | (with_reducible first | exact HB.out | apply bal | apply pdn | apply bd1) | exact HB.out))) : w.heap.size ≤ gb173)); clear HB; have HB := n0_; have BK173 := n1_; have GW173 := n2_; have GE173 := n3_; clear n0_ n1_ n2_ n3_; clear hb hbox hg))
 (try simp only [Act.put, sit, scz, scs])
 go_cut [1] (fun v1 wc => ∃ (kq : Nat) (x1_3 : ByteArray), v1 = .string x1_3 ∧ Aside0 (impl_Op_apply.j0 kq x1_3 a2 a0_0 a0_1 a0_2 = some (r1, r2)) ∧ Aside0 (kq ≤ k) ∧ Aside0 (wc.heap[gb173]? = some (.cells #[.int .i64 a0_0, .int .i64 a0_1, .string a0_2] 60 (0, 0))) ∧ Aside0 (Below w.heap.size w wc))
 case first =>
  have H := HC4.out
  clear HC4
  by_cases c6 : a2 = true
  ·subst c6
   have H1 : (impl_Op_apply.j0 k a1 true a0_0 a0_1 a0_2) = some (r1, r2) := by rw [if_pos rfl] at H; exact H
   clear H
   have H := H1
   clear H1
   have H' := am H
   clear H
   go_wp2
   go_meet
   case rel => exact ⟨_, (a1), (by first | rfl | (simp; done) | (simp [*]; done)), H', ⟨by first | omega | exact Nat.le_refl _⟩, ⟨by (with_reducible repeat (first | apply kdn | apply kdr | apply kal)); exact BK173.out⟩, ⟨by repeat (first | (with_reducible first | exact HB.out | apply bal | apply pdn | apply bd1 | refine bst ?_ GE173.out) | exact HB.out)⟩⟩
  ·replace c6 := Bool.eq_false_iff.mpr c6
   subst c6
   have H1 : (impl_Op_apply.j0 k (⟨#[]⟩ : ByteArray) false a0_0 a0_1 a0_2) = some (r1, r2) := by rw [if_neg (show ¬ (false = true) by decide)] at H; exact H
   clear H
   have H := H1
   clear H1
   have H' := am H
   clear H
   go_wp2
   go_meet
   case rel => exact ⟨_, ((⟨#[]⟩ : ByteArray)), (by first | rfl | (simp; done) | (simp [*]; done)), H', ⟨by first | omega | exact Nat.le_refl _⟩, ⟨by (with_reducible repeat (first | apply kdn | apply kdr | apply kal)); exact BK173.out⟩, ⟨by repeat (first | (with_reducible first | exact HB.out | apply bal | apply pdn | apply bd1 | refine bst ?_ GE173.out) | exact HB.out)⟩⟩
 case rest =>
  clear HC4
  obtain ⟨kq, x1_3, rfl, HA, HJ3, BK173, HB⟩ := hcut
  cases kq with
  | zero => exact absurd HA.out (by simp [impl_Op_apply.j0])
  | succ kj3 =>
   have H := HA.out
   clear HA
   simp only [impl_Op_apply.j0] at H
   by_cases c7 : a0_0 = 2
   ·rw [if_pos c7] at H
    have c7b0 : (a0_0 == 2) = true := beq_iff_eq.mpr c7
    have c7b1 : (a0_0 != 2) = false := bne_eq_false_iff_eq.mpr c7
    clear c7
    simp only [Option.some.injEq, Prod.mk.injEq] at H
    obtain ⟨rfl, rfl⟩ := H
    have hcz8_0 : wc.cell? ⟨gb173, 0, none⟩ = some (.int .i64 a0_0) := (kce BK173.out 0).trans rfl
    have hcz8_1 : wc.cell? ⟨gb173, 1, none⟩ = some (.int .i64 a0_1) := (kce BK173.out 1).trans rfl
    have hcz8_2 : wc.cell? ⟨gb173, 2, none⟩ = some (.string a0_2) := (kce BK173.out 2).trans rfl
    have hfz8_0 := kfr BK173.out 0
    have hfz8_1 := kfr BK173.out 1
    have hfz8_2 := kfr BK173.out 2
    go_wp2
    go_ret2
    exact ⟨by first | rfl | (simp [errW_none, errW_some] <;> rfl) | (simp [*, errW_none, errW_some] <;> rfl), by repeat (first | (with_reducible first | exact HB.out | apply bal | apply pdn | apply bd1 | refine bst ?_ GE173.out) | exact HB.out)⟩
   ·rw [if_neg c7] at H
    have c7b0 : (a0_0 == 2) = false := beq_eq_false_iff_ne.mpr c7
    have c7b1 : (a0_0 != 2) = true := bne_iff_ne.mpr c7
    by_cases c9 : a0_0 = 3
    ·rw [if_pos c9] at H
     have c9b0 : (a0_0 == 3) = true := beq_iff_eq.mpr c9
     have c9b1 : (a0_0 != 3) = false := bne_eq_false_iff_eq.mpr c9
     clear c9
     replace H := Option.bind_eq_some_iff.mp H
     obtain ⟨t174, A100, H⟩ := H
     replace H : (some (t174, true)) = some (r1, r2) := H
     have A10 := am A100
     clear A100
     simp only [Option.some.injEq, Prod.mk.injEq] at H
     obtain ⟨rfl, rfl⟩ := H
     have hcz11_0 : wc.cell? ⟨gb173, 0, none⟩ = some (.int .i64 a0_0) := (kce BK173.out 0).trans rfl
     have hcz11_1 : wc.cell? ⟨gb173, 1, none⟩ = some (.int .i64 a0_1) := (kce BK173.out 1).trans rfl
     have hcz11_2 : wc.cell? ⟨gb173, 2, none⟩ = some (.string a0_2) := (kce BK173.out 2).trans rfl
     have hfz11_0 := kfr BK173.out 0
     have hfz11_1 := kfr BK173.out 1
     have hfz11_2 := kfr BK173.out 2
     go_wp2_with (first | ((with_reducible refine gate_callee (f := 122) rfl ?_); refine goesL_ (some 23) rfl rfl Try.func122 (by kernel_rfl) rfl #[.string x1_3, .int .i64 a0_1, .string a0_2] rfl (by (try simp only [mta, mco, mni]); first | done | rfl | (simp only [lnd, lnt]; rfl)) ?_; (with_reducible refine (impl_overwritten.calls x1_3 a0_1 a0_2 t174 _ A10.out).mono ?_); rintro e w12 ⟨rfl, hb⟩; refine ⟨_, rfl, ?_⟩; have n0_ := am (kbb (g := gb173) (o := .cells #[.int .i64 a0_0, .int .i64 a0_1, .string a0_2] 60 (0, 0)) (by (with_reducible repeat (first | apply kdn | apply kdr | apply kal)); exact BK173.out) hb); have n1_ := am (below_step (by repeat (first | (with_reducible first | exact HB.out | apply bal | apply pdn | apply bd1 | refine bst ?_ GE173.out) | exact HB.out)) hb); clear BK173; clear HB; have BK173 := n0_; have HB := n1_; clear n0_ n1_; (try clear hb); (try clear hb2); (try clear hk); (try clear hi)))
     go_ret2
     exact ⟨by first | rfl | (simp [errW_none, errW_some] <;> rfl) | (simp [*, errW_none, errW_some] <;> rfl), by repeat (first | (with_reducible first | exact HB.out | apply bal | apply pdn | apply bd1 | refine bst ?_ GE173.out) | exact HB.out)⟩
    ·rw [if_neg c9] at H
     have c9b0 : (a0_0 == 3) = false := beq_eq_false_iff_ne.mpr c9
     have c9b1 : (a0_0 != 3) = true := bne_iff_ne.mpr c9
     by_cases c13 : a0_0 = 4
     ·rw [if_pos c13] at H
      have c13b0 : (a0_0 == 4) = true := beq_iff_eq.mpr c13
      have c13b1 : (a0_0 != 4) = false := bne_eq_false_iff_eq.mpr c13
      clear c13
      replace H := Option.bind_eq_some_iff.mp H
      obtain ⟨t175, A140, H⟩ := H
      replace H : (some (t175, true)) = some (r1, r2) := H
      have A14 := am A140
      clear A140
      simp only [Option.some.injEq, Prod.mk.injEq] at H
      obtain ⟨rfl, rfl⟩ := H
      have hcz15_0 : wc.cell? ⟨gb173, 0, none⟩ = some (.int .i64 a0_0) := (kce BK173.out 0).trans rfl
      have hcz15_1 : wc.cell? ⟨gb173, 1, none⟩ = some (.int .i64 a0_1) := (kce BK173.out 1).trans rfl
      have hcz15_2 : wc.cell? ⟨gb173, 2, none⟩ = some (.string a0_2) := (kce BK173.out 2).trans rfl
      have hfz15_0 := kfr BK173.out 0
      have hfz15_1 := kfr BK173.out 1
      have hfz15_2 := kfr BK173.out 2
      go_wp2_with (first | ((with_reducible refine gate_callee (f := 122) rfl ?_); refine goesL_ (some 31) rfl rfl Try.func122 (by kernel_rfl) rfl #[.string x1_3, .int .i64 (x1_3.size : Int), .string a0_2] rfl (by (try simp only [mta, mco, mni]); first | done | rfl | (simp only [lnd, lnt]; rfl)) ?_; (with_reducible refine (impl_overwritten.calls x1_3 (x1_3.size : Int) a0_2 t175 _ A14.out).mono ?_); rintro e w16 ⟨rfl, hb⟩; refine ⟨_, rfl, ?_⟩; have n0_ := am (kbb (g := gb173) (o := .cells #[.int .i64 a0_0, .int .i64 a0_1, .string a0_2] 60 (0, 0)) (by (with_reducible repeat (first | apply kdn | apply kdr | apply kal)); exact BK173.out) hb); have n1_ := am (below_step (by repeat (first | (with_reducible first | exact HB.out | apply bal | apply pdn | apply bd1 | refine bst ?_ GE173.out) | exact HB.out)) hb); clear BK173; clear HB; have BK173 := n0_; have HB := n1_; clear n0_ n1_; (try clear hb); (try clear hb2); (try clear hk); (try clear hi)))
      go_ret2
      exact ⟨by first | rfl | (simp [errW_none, errW_some] <;> rfl) | (simp [*, errW_none, errW_some] <;> rfl), by repeat (first | (with_reducible first | exact HB.out | apply bal | apply pdn | apply bd1 | refine bst ?_ GE173.out) | exact HB.out)⟩
     ·rw [if_neg c13] at H
      have c13b0 : (a0_0 == 4) = false := beq_eq_false_iff_ne.mpr c13
      have c13b1 : (a0_0 != 4) = true := bne_iff_ne.mpr c13
      by_cases c17 : a0_0 = 5
      ·rw [if_pos c17] at H
       have c17b0 : (a0_0 == 5) = true := beq_iff_eq.mpr c17
       have c17b1 : (a0_0 != 5) = false := bne_eq_false_iff_eq.mpr c17
       clear c17
       obtain ⟨ji18, hji18⟩ : ∃ j_ : Int, (mn (x1_3.size : Int) a0_1) = j_ := ⟨_, rfl⟩
       replace H : (if 0 ≤ (ji18) then (if (ji18) ≤ (x1_3.size : Int) then (some (x1_3.extract 0 ((ji18) : Int).toNat, a2)) else (none)) else (none)) = some (r1, r2) := by first | (rw [hji18] at H; exact H) | (simp only [hji18] at H ⊢; exact H)
       have hji18_ : (if a0_1 < (x1_3.size : Int) then a0_1 else (x1_3.size : Int)) = ji18 := hji18
       by_cases c19 : 0 ≤ (ji18)
       ·rw [if_pos c19] at H
        have c19b0 := eq_true c19
        have c19b1 : decide (0 ≤ (ji18)) = true := decide_eq_true c19
        clear c19
        by_cases c20 : (ji18) ≤ (x1_3.size : Int)
        ·rw [if_pos c20] at H
         have c20b0 := eq_true c20
         have c20b1 : decide ((ji18) ≤ (x1_3.size : Int)) = true := decide_eq_true c20
         clear c20
         simp only [Option.some.injEq, Prod.mk.injEq] at H
         obtain ⟨rfl, rfl⟩ := H
         have hcz21_0 : wc.cell? ⟨gb173, 0, none⟩ = some (.int .i64 a0_0) := (kce BK173.out 0).trans rfl
         have hcz21_1 : wc.cell? ⟨gb173, 1, none⟩ = some (.int .i64 a0_1) := (kce BK173.out 1).trans rfl
         have hcz21_2 : wc.cell? ⟨gb173, 2, none⟩ = some (.string a0_2) := (kce BK173.out 2).trans rfl
         have hfz21_0 := kfr BK173.out 0
         have hfz21_1 := kfr BK173.out 1
         have hfz21_2 := kfr BK173.out 2
         go_wp2
         go_ret2
         exact ⟨by first | rfl | (simp [errW_none, errW_some] <;> rfl) | (simp only [← hji18]; first | rfl | (simp [errW_none, errW_some] <;> rfl)) | (simp [*, errW_none, errW_some] <;> rfl), by repeat (first | (with_reducible first | exact HB.out | apply bal | apply pdn | apply bd1 | refine bst ?_ GE173.out) | exact HB.out)⟩
        ·rw [if_neg c20] at H
         exact absurd H (by simp)
       ·rw [if_neg c19] at H
        exact absurd H (by simp)
      ·rw [if_neg c17] at H
       have c17b0 : (a0_0 == 5) = false := beq_eq_false_iff_ne.mpr c17
       have c17b1 : (a0_0 != 5) = true := bne_iff_ne.mpr c17
       by_cases c22 : a0_0 = 6
       ·rw [if_pos c22] at H
        have c22b0 : (a0_0 == 6) = true := beq_iff_eq.mpr c22
        have c22b1 : (a0_0 != 6) = false := bne_eq_false_iff_eq.mpr c22
        clear c22
        simp only [Option.some.injEq, Prod.mk.injEq] at H
        obtain ⟨rfl, rfl⟩ := H
        have hcz23_0 : wc.cell? ⟨gb173, 0, none⟩ = some (.int .i64 a0_0) := (kce BK173.out 0).trans rfl
        have hcz23_1 : wc.cell? ⟨gb173, 1, none⟩ = some (.int .i64 a0_1) := (kce BK173.out 1).trans rfl
        have hcz23_2 : wc.cell? ⟨gb173, 2, none⟩ = some (.string a0_2) := (kce BK173.out 2).trans rfl
        have hfz23_0 := kfr BK173.out 0
        have hfz23_1 := kfr BK173.out 1
        have hfz23_2 := kfr BK173.out 2
        go_wp2
        go_ret2
        exact ⟨by first | rfl | (simp [errW_none, errW_some] <;> rfl) | (simp [*, errW_none, errW_some] <;> rfl), by repeat (first | (with_reducible first | exact HB.out | apply bal | apply pdn | apply bd1 | refine bst ?_ GE173.out) | exact HB.out)⟩
       ·rw [if_neg c22] at H
        have c22b0 : (a0_0 == 6) = false := beq_eq_false_iff_ne.mpr c22
        have c22b1 : (a0_0 != 6) = true := bne_iff_ne.mpr c22
        simp only [Option.some.injEq, Prod.mk.injEq] at H
        obtain ⟨rfl, rfl⟩ := H
        have hcz24_0 : wc.cell? ⟨gb173, 0, none⟩ = some (.int .i64 a0_0) := (kce BK173.out 0).trans rfl
        have hcz24_1 : wc.cell? ⟨gb173, 1, none⟩ = some (.int .i64 a0_1) := (kce BK173.out 1).trans rfl
        have hcz24_2 : wc.cell? ⟨gb173, 2, none⟩ = some (.string a0_2) := (kce BK173.out 2).trans rfl
        have hfz24_0 := kfr BK173.out 0
        have hfz24_1 := kfr BK173.out 1
        have hfz24_2 := kfr BK173.out 2
        go_wp2
        go_ret2
        exact ⟨by first | rfl | (simp [errW_none, errW_some] <;> rfl) | (simp [*, errW_none, errW_some] <;> rfl), by repeat (first | (with_reducible first | exact HB.out | apply bal | apply pdn | apply bd1 | refine bst ?_ GE173.out) | exact HB.out)⟩

end Go.Proofs.Ythphhklbliambaa.MFnOps
