-- Written by a program of this session (wip/tools/myprint.py) over the kit's print: it is not the kit's print.
import Derived.Test.YthphhklbliambaaExtra
import Derived.Lib.SliceRun
import Derived.Test.YthphhklbliambaaMFnExactPowerLossx0
namespace Go.Proofs.Ythphhklbliambaa.MFnExactPowerLoss
open Go.RowKit Go.Proofs.YthphhklbliambaaW.PrintWords Go.Proofs.YthphhklbliambaaW.PrintLast Go.Proofs.YthphhklbliambaaW.PrintMore
open List renaming map_toArray → mta, map_cons → mco, map_nil → mni, length_drop → lnd, length_take → lnt
open World renaming block_lt_of_cell? → blc
attribute [local go_sem] max2_int min2_int max_two min_two max_three min_three max_four min_four   -- for this text's walks alone
set_option linter.unusedVariables false
set_option linter.unusedSimpArgs false

/-! ### laws_toInt64S: function 29 -/
def laws_toInt64S.l0 : Nat → List Int → List Int → Int → Option (List Int)
 | 0, _, _, _ => none
 | k + 1, x0, x3, x4 => if x4 < (x0.length : Int) then (if 0 ≤ x4 then (if x4 < (x3.length : Int) then (laws_toInt64S.l0 k x0 (x3.set (x4 : Int).toNat (rd x0 x4)) (wrap64 (x4 + 1))) else (none)) else (none)) else (some x3)
def laws_toInt64S.f (k : Nat) (l0 : List Int) : Option (List Int) := if 0 ≤ (l0.length : Int) then (if ((l0.length : Int) : Int).toNat ≤ 35184372088832 then (laws_toInt64S.l0 k l0 (List.replicate ((l0.length : Int) : Int).toNat 0) 0) else (none)) else (none)
theorem laws_toInt64S.mono_l : ∀ k, (∀ y0 y1 y2, LeO (laws_toInt64S.l0 k y0 y1 y2) (laws_toInt64S.l0 (k + 1) y0 y1 y2))
 | 0 => fun _ _ _ r h => by simp [laws_toInt64S.l0] at h
 | k + 1 => by
  have ih0 := laws_toInt64S.mono_l k
  ·intro y0 y1 y2
   unfold laws_toInt64S.l0
   repeat' first
   | (with_reducible exact ih0 _ _ _)
   | (with_reducible exact LeO.refl _)
   | (with_reducible exact LeO.none _)
   | (with_reducible refine LeO.ite ?_ ?_)
   | (with_reducible refine LeO.bind ?_ (fun _ => ?_))
   | exact ih0 _ _ _
   | exact LeO.none _
   | refine LeO.ite ?_ ?_
   | refine LeO.bind ?_ (fun _ => ?_)
theorem laws_toInt64S.mono : ∀ a0 k, LeO (laws_toInt64S.f k a0) (laws_toInt64S.f (k + 1) a0) := by
 intro a0 k
 have ih0 := laws_toInt64S.mono_l k
 unfold laws_toInt64S.f
 repeat' first
   | (with_reducible exact ih0 _ _ _)
   | (with_reducible exact LeO.refl _)
   | (with_reducible exact LeO.none _)
   | (with_reducible refine LeO.ite ?_ ?_)
   | (with_reducible refine LeO.bind ?_ (fun _ => ?_))
   | exact ih0 _ _ _
   | exact LeO.none _
   | refine LeO.ite ?_ ?_
   | refine LeO.bind ?_ (fun _ => ?_)
set_option maxHeartbeats 8000000 in
set_option maxRecDepth 100000 in
theorem laws_toInt64S.calls (k : Nat) (A0 : Option Addr) (c0 : Nat) (l0 : List Int) (r : List Int) (w : World) (hr0 : Kd.C (Kd.int .i64) w A0 l0.length l0) (hc0 : l0.length ≤ c0) (h : laws_toInt64S.f k l0 = some r) :
  Calls Try.prog 29 #[.slice A0 l0.length c0] w fun e w' => ∃ v0_ : Value, e = .returned (v0_) ∧ Kd.R (Kd.int .i64) 2 w' w.heap.size (fun _ => True) v0_ r ∧ Below w.heap.size w w' := by
 have HR0 := am hr0
 have HC0 := am hc0
 clear hr0 hc0
 have HB := am (Below.refl w.heap.size w)
 have H : (if 0 ≤ (l0.length : Int) then (if ((l0.length : Int) : Int).toNat ≤ 35184372088832 then (laws_toInt64S.l0 k l0 (List.replicate ((l0.length : Int) : Int).toNat 0) 0) else (none)) else (none)) = some r := h
 clear h
 by_cases c2 : 0 ≤ (l0.length : Int)
 ·rw [if_pos c2] at H
  have c2b0 := eq_true c2
  have c2b1 : decide (0 ≤ (l0.length : Int)) = true := decide_eq_true c2
  clear c2
  by_cases c3 : ((l0.length : Int) : Int).toNat ≤ 35184372088832
  ·rw [if_pos c3] at H
   have c3b0 := eq_true c3
   have c3b1 : decide (((l0.length : Int) : Int).toNat ≤ 35184372088832) = true := decide_eq_true c3
   clear c3
   obtain ⟨y192, hy192⟩ : ∃ y_ : List Int, y_ = (List.replicate ((l0.length : Int) : Int).toNat 0) := ⟨_, rfl⟩
   replace H : (laws_toInt64S.l0 k l0 y192 0) = some r := by first | (rw [hy192]; with_reducible exact H) | (have H2_ := (Option.bind_some _ _).symm.trans H; rw [hy192]; with_reducible exact H2_) | (have H2_ := (Option.bind_some _ _).symm.trans H; with_reducible exact H2_) | with_reducible exact H | (rw [hy192]; exact H) | exact H
   have Ny192 := am hy192
   clear hy192
   have H' := am H
   clear H
   go_enter Try.func29, Try.ntmps29
   go_wp2_with (first | ((with_reducible refine gate_dst (N := 7) rfl ?_); refine Kd.R_make (Kd.int .i64) _ 2 rfl (N := 7) rfl 42 _ _ rfl (l0.length : Int) rfl rfl Try.underlying42 (.int .i64 0) 8 info2 rfl (by decide) (by omega) 0 (ok := fun _ => True) (okp := fun _ => True) rfl (fun _ hk => hk) trivial (of_decide_eq_true (by first | (with_reducible assumption) | assumption)) (Nat.le_trans (Nat.mul_le_mul_right _ (of_decide_eq_true (by first | (with_reducible assumption) | assumption) : (l0.length : Int).toNat ≤ 35184372088832)) (by omega)) (Below.refl _ _) (Nat.le_refl _) ?_; intro v193 w4 ho5 hb hg_ hnew_; clear hg_ hnew_; (first | rw [← Ny192.out] at ho5 | (simp only [Int.reduceToNat] at ho5; rw [← Ny192.out] at ho5)); have n0_ := am (Kd.R_lower ho5 (below_size (by repeat (first | (with_reducible first | exact HB.out | apply bal | apply pdn | apply bd1) | exact HB.out)))); have n1_ := am (below_step (by repeat (first | (with_reducible first | exact HB.out | apply bal | apply pdn | apply bd1) | exact HB.out)) hb); clear HB; have HO194 := n0_; have HB := n1_; clear n0_ n1_; clear hb ho5))
   go_loopg [4] k (fun kq v4 w' => ∃ (x3_1 : List Int) (x4_1 : Int), v4 = .int .i64 x4_1 ∧ Aside0 (laws_toInt64S.l0 kq l0 x3_1 x4_1 = some r) ∧ Aside0 (kq ≤ k) ∧ Aside0 (Kd.R (Kd.int .i64) 2 w' w.heap.size (fun _ => True) v193 x3_1) ∧ Aside0 (Below w.heap.size w w'))
   case atStart => exact ⟨(y192), (0), (by first | rfl | (simp; done) | (simp [*]; done)), H', ⟨Nat.le_refl _⟩, ⟨by (with_reducible repeat (first | apply kra | apply krn | apply krd)); exact HO194.out⟩, ⟨by repeat (first | (with_reducible first | exact HB.out | apply bal | apply pdn | apply bd1) | exact HB.out)⟩⟩
   case round =>
    clear H'
    obtain ⟨x3_1, x4_1, rfl, HA, HK1, HO_3, HB⟩ := hrel
    cases gk with
    | zero => exact absurd HA.out (by simp [laws_toInt64S.l0])
    | succ k1 =>
     have H := HA.out
     clear HA
     simp only [laws_toInt64S.l0] at H
     by_cases c6 : x4_1 < (l0.length : Int)
     ·rw [if_pos c6] at H
      have c6b0 : decide (x4_1 < (l0.length : Int)) = true := decide_eq_true c6
      clear c6
      by_cases c7 : 0 ≤ x4_1
      ·rw [if_pos c7] at H
       have c7b0 : decide (0 ≤ x4_1) = true := decide_eq_true c7
       clear c7
       by_cases c8 : x4_1 < (x3_1.length : Int)
       ·rw [if_pos c8] at H
        have c8b0 : decide (x4_1 < (x3_1.length : Int)) = true := decide_eq_true c8
        clear c8
        obtain ⟨y196, hy196⟩ : ∃ y_ : List Int, y_ = (x3_1.set (x4_1 : Int).toNat (rd l0 x4_1)) := ⟨_, rfl⟩
        replace H : (laws_toInt64S.l0 k1 l0 y196 (wrap64 (x4_1 + 1))) = some r := by first | (rw [hy196]; with_reducible exact H) | (have H2_ := (Option.bind_some _ _).symm.trans H; rw [hy196]; with_reducible exact H2_) | (have H2_ := (Option.bind_some _ _).symm.trans H; with_reducible exact H2_) | with_reducible exact H | (rw [hy196]; exact H) | exact H
        have Ny196 := am hy196
        clear hy196
        have H' := am H
        clear H
        have p195 : 0 ≤ (x4_1 : Int) := of_decide_eq_true (by first | (with_reducible assumption) | assumption)
        have q195 : x4_1 < (l0.length : Int) := of_decide_eq_true (by first | (with_reducible assumption) | assumption)
        obtain ⟨ad195, e195, hx195_0⟩ := Kd.at_int HR0.out x4_1 p195 q195
        cases e195
        replace hx195_0 := (HB.out.cell (blc w _ hx195_0)).trans hx195_0
        replace p195 := eq_true p195
        replace q195 := eq_true q195
        have p9 : 0 ≤ (x4_1 : Int) := of_decide_eq_true (by first | (with_reducible assumption) | assumption)
        have q9 : (x4_1 : Int) < ((x3_1.length : Int) : Int) := of_decide_eq_true (by first | (with_reducible assumption) | assumption)
        obtain ⟨go9, co9, eo9, gb9, gl9, cl9, HG9⟩ := Kd.R_form HO_3.out (by omega)
        (first | cases eo9 | (injection eo9 with ea_ en_ ec_; (first | subst ea_ | (injection ea_ with ea_; subst ea_)); subst ec_; clear en_))
        have GB9 := am gb9
        have GG9 := am HG9
        clear gb9 gl9 HG9
        obtain ⟨hx9_0, hf9_0⟩ := Kd.R_celln 0 HO_3.out (x4_1 : Int) p9 q9
        replace p9 := eq_true p9
        replace q9 := eq_true q9
        have HP10 := Kd.R_putg HO_3.out (x4_1 : Int) (rd l0 x4_1)
        go_wp2_with (first | ((with_reducible refine gate_store (t := 2) (p := 20) rfl ?_); refine store_event (t := 2) (p := 20) (v := ?vo_w11) (w1 := (wr.setCell ⟨go9, (x4_1 : Int).toNat, none⟩ (.int .i64 (rd l0 x4_1)))) ?hg ?ho ?hn ?hr ?_; (case ho => rfl); (case hg => rfl); (case hn => rfl); (case hr => first | (go_simp; done) | (go_simp; rfl)); intro w11 hw; have hg : wr.grownBy w11 (some go9) := (by rw [hw]; exact HP10.2); have hp_ : Kd.R (Kd.int .i64) 2 w11 w.heap.size (fun _ => True) (.slice (some ⟨go9, 0, none⟩) x3_1.length co9) y196 := (by rw [hw, Ny196.out]; exact HP10.1); clear HP10; have n0_ := am (hp_); have n1_ := am ((by rw [hw]; exact bst (HB.out) GB9.out : Below w.heap.size w w11)); clear HO_3; clear HB; have HO_3 := n0_; have HB := n1_; clear n0_ n1_; clear hg hw hp_))
        go_roundg k1
        case measure => have := HK1.out; omega
        case rel => exact ⟨(y196), (wrap64 (x4_1 + 1)), (by first | rfl | (simp; done) | (simp [*]; done)), H', ⟨by have := HK1.out; omega⟩, ⟨by (with_reducible repeat (first | apply kra | apply krn | apply krd)); exact HO_3.out⟩, ⟨by repeat (first | (with_reducible first | exact HB.out | apply bal | apply pdn | apply bd1) | exact HB.out)⟩⟩
       ·rw [if_neg c8] at H
        exact absurd H (by simp)
      ·rw [if_neg c7] at H
       exact absurd H (by simp)
     ·rw [if_neg c6] at H
      have c6b0 : decide (x4_1 < (l0.length : Int)) = false := decide_eq_false c6
      clear c6
      obtain rfl := Option.some.inj H
      go_wp2
      go_ret
      exact ⟨_, by first | rfl | (simp [errW_none, errW_some] <;> rfl) | (simp [*, errW_none, errW_some] <;> rfl), by (with_reducible repeat (first | apply kra | apply krn | apply krd)); exact HO_3.out, by repeat (first | (with_reducible first | exact HB.out | apply bal | apply pdn | apply bd1) | exact HB.out)⟩
  ·rw [if_neg c3] at H
   exact absurd H (by simp)
 ·rw [if_neg c2] at H
  exact absurd H (by simp)

/-! ### impl_between: function 60 -/
def impl_between.f (a0 : Int) (a1 : Int) (a2 : Int) : Option (Bool) := if a0 ≥ a1 then (some (decide (a0 ≤ a2))) else (some false)
set_option maxHeartbeats 8000000 in
set_option maxRecDepth 100000 in
theorem impl_between.calls (a0 : Int) (a1 : Int) (a2 : Int) (r : Bool) (w : World) (h : impl_between.f a0 a1 a2 = some r) :
  Calls Try.prog 60 #[.int .i64 a0, .int .i64 a1, .int .i64 a2] w fun e w' => e = .returned (.bool r) ∧ Drawn0 w w' := by
 have H : (if a0 ≥ a1 then (some (decide (a0 ≤ a2))) else (some false)) = some r := h
 clear h
 by_cases c4 : a0 ≥ a1
 ·rw [if_pos c4] at H
  have c4b0 : decide (a1 ≤ a0) = true := decide_eq_true c4
  clear c4
  obtain rfl := Option.some.inj H
  go_enter Try.func60, Try.ntmps60
  go_wp2
  go_ret
  exact ⟨by first | rfl | (simp; done) | (simp [*]; done), by repeat (first | exact Drawn0.refl _ | apply Drawn0.step)⟩
 ·rw [if_neg c4] at H
  have c4b0 : decide (a1 ≤ a0) = false := decide_eq_false c4
  clear c4
  obtain rfl := Option.some.inj H
  go_enter Try.func60, Try.ntmps60
  go_wp2
  go_ret
  exact ⟨by first | rfl | (simp; done) | (simp [*]; done), by repeat (first | exact Drawn0.refl _ | apply Drawn0.step)⟩

/-! ### impl_sectorOk: function 61 -/
def impl_sectorOk.f (a0 : ByteArray) : Option (Bool) := some ((a0.size : Int) == 64)
set_option maxHeartbeats 8000000 in
set_option maxRecDepth 100000 in
theorem impl_sectorOk.calls (a0 : ByteArray) (r : Bool) (w : World) (h : impl_sectorOk.f a0 = some r) :
  Calls Try.prog 61 #[.string a0] w fun e w' => e = .returned (.bool r) ∧ Drawn0 w w' := by
 have H : (some ((a0.size : Int) == 64)) = some r := h
 clear h
 obtain rfl := Option.some.inj H
 go_enter Try.func61, Try.ntmps61
 go_wp2
 go_ret
 exact ⟨by first | rfl | (simp; done) | (simp [*]; done), by repeat (first | exact Drawn0.refl _ | apply Drawn0.step)⟩

/-! ### impl_isIndex: function 64 -/
def impl_isIndex.f (a0 : Int) (a1 : Int) : Option (Bool) := (impl_between.f a0 0 (wrap64 (a1 - 1))).bind fun t197 => (some t197)
set_option maxHeartbeats 8000000 in
set_option maxRecDepth 100000 in
theorem impl_isIndex.calls (a0 : Int) (a1 : Int) (r : Bool) (w : World) (h : impl_isIndex.f a0 a1 = some r) :
  Calls Try.prog 64 #[.int .i64 a0, .int .i64 a1] w fun e w' => e = .returned (.bool r) ∧ Drawn0 w w' := by
 have H : ((impl_between.f a0 0 (wrap64 (a1 - 1))).bind fun t197 => (some t197)) = some r := h
 clear h
 replace H := Option.bind_eq_some_iff.mp H
 obtain ⟨t197, A30, H⟩ := H
 replace H : (some t197) = some r := H
 have A3 := am A30
 clear A30
 obtain rfl := Option.some.inj H
 go_enter Try.func64, Try.ntmps64
 go_wp2_with (first | ((with_reducible refine gate_callee (f := 60) rfl ?_); refine goesL_ (some 8) rfl rfl Try.func60 (by kernel_rfl) rfl #[.int .i64 a0, .int .i64 0, .int .i64 (wrap64 (a1 - 1))] rfl (by (try simp only [mta, mco, mni]); first | done | rfl | (simp only [lnd, lnt]; rfl)) ?_; (with_reducible refine (impl_between.calls a0 0 (wrap64 (a1 - 1)) t197 _ A3.out).mono ?_); rintro e w' ⟨rfl, ⟨nd, rfl⟩⟩; refine ⟨_, rfl, ?_⟩))
 go_ret
 exact ⟨by first | rfl | (simp; done) | (simp [*]; done), by repeat (first | exact Drawn0.refl _ | apply Drawn0.step)⟩

/-! ### impl_DiskOk: function 18 -/
set_option maxHeartbeats 4000000 in
set_option maxRecDepth 100000 in
theorem impl_DiskOk.index (b1 : Addr) (p : S55 → Bool) (A0 : Option Addr) (c0 : Nat) (l0 : List S55) (w : World) (hr0 : Kd.C k55 w A0 l0.length l0)
  (hp : ∀ (W : World) (x : S55) , Below w.heap.size w W → x ∈ l0 → Calls Try.prog 63 #[.agg #[.int .i64 x.f0, .string x.f1], .pointer (some b1)] W fun e w' => e = .returned (.bool (p x)) ∧ Below w.heap.size w w') :
  Calls Try.prog 104 #[.slice A0 l0.length c0, .func (.func 63) #[] #[.pointer (some b1)]] w fun e w' => e = .returned (.int .i64 (idxP p l0 0)) ∧ Below w.heap.size w w' := by
 have HR0 := am hr0
 have HP := am hp
 have hm : l0.length ≤ 9223372036854775807 := hr0.2.1
 clear hr0 hp
 go_enter Try.func104, Try.ntmps104
 go_wp2
 go_loopg [5, 8] l0.length (fun gg _ s8 wr => ∃ kk : Nat, kk ≤ l0.length ∧ l0.length - kk ≤ gg ∧ s8 = .int .i64 kk ∧ Aside0 (Below w.heap.size w wr) ∧ Aside0 (idxP p l0 0 = idxP p (l0.drop kk) kk))
 case atStart => exact ⟨0, Nat.zero_le _, by omega, rfl, ⟨Below.refl _ w⟩, ⟨rfl⟩⟩
 case round =>
  obtain ⟨kk, hkk, hg, rfl, BW, AI⟩ := hrel
  by_cases hlt : kk < l0.length
  ·have hltz : (kk : Int) < (l0.length : Int) := by omega
   obtain ⟨ad, e, hx0, hx1⟩ := at_T55 HR0.out (kk : Int) (by omega) hltz
   cases e
   rw [Int.toNat_natCast] at hx0
   replace hx0 := (BW.out.cell (blc w _ hx0)).trans hx0
   rw [Int.toNat_natCast] at hx1
   replace hx1 := (BW.out.cell (blc w _ hx1)).trans hx1
   have HE : Aside0 (rd_T55 l0 (kk : Int) = l0[kk]) := ⟨by simp [rd_T55, List.getD_eq_getElem?_getD, List.getElem?_eq_getElem hlt]⟩
   have hcall := HP.out wr (rd_T55 l0 (kk : Int))  BW.out (by rw [HE.out]; exact List.getElem_mem hlt)
   have HD := am (idxP_drop p l0 kk hlt)
   generalize rd_T55 l0 (kk : Int) = y at hx0 hx1 hcall HE
   cases hq : p y with
   | true =>
    rw [hq] at hcall
    have HQ := am hq
    clear hq
    go_wp2_with (go_at_call 63; refine hcall.mono ?_; rintro e w' ⟨rfl, hb'⟩)
    go_ret
    refine ⟨?_, hb'⟩
    rw [AI.out, HD.out, ← HE.out, if_pos HQ.out]
    rfl
   | false =>
    rw [hq] at hcall
    have HQ := am hq
    clear hq
    go_wp2_with (go_at_call 63; refine hcall.mono ?_; rintro e w' ⟨rfl, hb'⟩)
    go_roundg (l0.length - (kk + 1))
    case measure => omega
    case rel => exact ⟨kk + 1, by omega, by omega, by go_num, ⟨hb'⟩, ⟨by rw [AI.out, HD.out, ← HE.out, HQ.out]; rfl⟩⟩
  ·have hltz : ¬ (kk : Int) < (l0.length : Int) := by omega
   go_wp2
   go_ret
   refine ⟨?_, BW.out⟩
   rw [AI.out, List.drop_of_length_le (by omega)]
   rfl
set_option maxHeartbeats 2000000 in
theorem impl_DiskOk.contains (b1 : Addr) (p : S55 → Bool) (A0 : Option Addr) (c0 : Nat) (l0 : List S55) (w : World) (hr0 : Kd.C k55 w A0 l0.length l0)
  (hp : ∀ (W : World) (x : S55) , Below w.heap.size w W → x ∈ l0 → Calls Try.prog 63 #[.agg #[.int .i64 x.f0, .string x.f1], .pointer (some b1)] W fun e w' => e = .returned (.bool (p x)) ∧ Below w.heap.size w w') :
  Calls Try.prog 62 #[.slice A0 l0.length c0, .func (.func 63) #[] #[.pointer (some b1)]] w fun e w' => e = .returned (.bool (l0.any p)) ∧ Below w.heap.size w w' := by
 have HI := impl_DiskOk.index b1 p A0 c0 l0 w hr0 hp
 have HQ := am (idxP_dec p l0)
 clear hr0 hp
 generalize idxP p l0 0 = q at HI HQ
 generalize l0.any p = b at HQ
 go_enter Try.func62, Try.ntmps62
 go_wp2_with (go_at_call 104; refine HI.mono ?_; rintro e w' ⟨rfl, hb⟩)
 go_ret
 exact ⟨by rw [← HQ.out]; rfl, hb⟩
/-- A write that waits is one to a sector, of a sector's length. -/
def impl_DiskOk.wait (n : Nat) (p : S55) : Bool := decide (0 ≤ p.f0 ∧ p.f0 ≤ (n : Int) - 1) && ((p.f1.size : Int) == 64)
def impl_DiskOk.f (l0_0 : List ByteArray) (l0_1 : List S55) : Option Bool :=
 some (((decide ((1 : Int) ≤ (l0_0.length : Int) ∧ (l0_0.length : Int) ≤ 1200) && decide ((l0_1.length : Int) ≤ 600)) && l0_0.all fun s => ((s.size : Int) == 64)) && !l0_1.any fun p => !impl_DiskOk.wait l0_0.length p)
theorem impl_DiskOk.btw (a b c : Int) : impl_between.f a b c = some (decide (b ≤ a ∧ a ≤ c)) := by
 unfold impl_between.f
 by_cases h : a ≥ b
 ·have h' : b ≤ a := h
  simp [h, h']
 ·have h' : ¬ b ≤ a := h
  simp [h, h']
theorem impl_DiskOk.idx (a : Int) (n : Nat) (hn : n ≤ 9223372036854775807) : impl_isIndex.f a n = some (decide (0 ≤ a ∧ a ≤ (n : Int) - 1)) := by
 unfold impl_isIndex.f
 rw [impl_DiskOk.btw, show wrap64 ((n : Int) - 1) = (n : Int) - 1 by unfold wrap64; omega]
 rfl
set_option maxHeartbeats 2000000 in
theorem impl_DiskOk.pred (x : S55) (b : Addr) (A : Option Addr) (c n : Nat) (W : World) (hn : n ≤ 9223372036854775807) (hc : W.cell? b = some (.slice A n c)) :
  Calls Try.prog 63 #[.agg #[.int .i64 x.f0, .string x.f1], .pointer (some b)] W fun e w' => e = .returned (.bool (!impl_DiskOk.wait n x)) ∧ Below W.heap.size W w' := by
 have HI := impl_isIndex.calls x.f0 n (decide (0 ≤ x.f0 ∧ x.f0 ≤ (n : Int) - 1))
 have TI := am (impl_DiskOk.idx x.f0 n hn)
 have HS := impl_sectorOk.calls x.f1 ((x.f1.size : Int) == 64)
 have TS := am (show impl_sectorOk.f x.f1 = some ((x.f1.size : Int) == 64) from rfl)
 have HW : Aside0 (impl_DiskOk.wait n x = (decide (0 ≤ x.f0 ∧ x.f0 ≤ (n : Int) - 1) && ((x.f1.size : Int) == 64))) := ⟨rfl⟩
 generalize decide (0 ≤ x.f0 ∧ x.f0 ≤ (n : Int) - 1) = b1 at HI TI HW
 generalize ((x.f1.size : Int) == 64) = b2 at HS TS HW
 have hc' : (W.alloc (.cells #[.int .i64 x.f0, .string x.f1] 55)).cell? b = some (.slice A n c) := (((Below.refl W.heap.size W).alloc (Nat.le_refl _) _).cell (blc W _ hc)).trans hc
 have HB := am ((Below.refl W.heap.size W).alloc (Nat.le_refl _) (.cells #[.int .i64 x.f0, .string x.f1] 55))
 clear hc
 cases b1 <;> cases b2
 all_goals
  go_enter Try.func63, Try.ntmps63
  go_wp2_with (first | (go_at_call 64; refine (HI _ TI.out).mono ?_; rintro e w' ⟨rfl, ⟨q, rfl⟩⟩) | (go_at_call 61; refine (HS _ TS.out).mono ?_; rintro e w' ⟨rfl, ⟨q2, rfl⟩⟩))
  go_ret
  exact ⟨by rw [HW.out]; rfl, by repeat (first | exact HB.out | apply pdn)⟩
set_option maxHeartbeats 4000000 in
set_option maxRecDepth 100000 in
theorem impl_DiskOk.calls (A0_0 : Option Addr) (c0_0 : Nat) (l0_0 : List ByteArray) (A0_1 : Option Addr) (c0_1 : Nat) (l0_1 : List S55) (r : Bool) (w : World) (hr0_0 : Kd.C Kd.string w A0_0 l0_0.length l0_0) (hc0_0 : l0_0.length ≤ c0_0) (hr0_1 : Kd.C k55 w A0_1 l0_1.length l0_1) (hc0_1 : l0_1.length ≤ c0_1) (h : impl_DiskOk.f l0_0 l0_1 = some r) :
  Calls Try.prog 18 #[.agg #[.slice A0_0 l0_0.length c0_0, .slice A0_1 l0_1.length c0_1]] w fun e w' => e = .returned (.bool r) ∧ Below w.heap.size w w' := by
 have hn : l0_0.length ≤ 9223372036854775807 := hr0_0.2.1
 have hn1 : l0_1.length ≤ 9223372036854775807 := hr0_1.2.1
 have HE := am (Option.some.inj h)
 clear h
 obtain ⟨W1, hW1⟩ : ∃ W1, W1 = w.alloc (.cells #[.slice A0_0 l0_0.length c0_0, .slice A0_1 l0_1.length c0_1] 30) := ⟨_, rfl⟩
 have hB : Below w.heap.size w W1 := by rw [hW1]; exact (Below.refl _ _).alloc (Nat.le_refl _) _
 have hz0 : W1.cell? ⟨w.heap.size, 0, none⟩ = some (.slice A0_0 l0_0.length c0_0) := by rw [hW1]; simp
 have hz1 : W1.cell? ⟨w.heap.size, 1, none⟩ = some (.slice A0_1 l0_1.length c0_1) := by rw [hW1]; simp
 have HI : Aside0 (∀ q, Calls Try.prog 62 #[.slice A0_1 l0_1.length c0_1, .func (.func 63) #[] #[.pointer (some ⟨w.heap.size, 0, none⟩)]] (W1.drewN q) fun e w' => e = .returned (.bool (l0_1.any fun p => !impl_DiskOk.wait l0_0.length p)) ∧ Below w.heap.size w w') := ⟨fun q => by
  have hq : Below W1.heap.size W1 (W1.drewN q) := pdn (Below.refl _ _) q
  refine (impl_DiskOk.contains ⟨w.heap.size, 0, none⟩ (fun p => !impl_DiskOk.wait l0_0.length p) A0_1 c0_1 l0_1 (W1.drewN q) (Kd.C_below (Kd.C_below hr0_1 hB) hq) (fun W x hb _ => impl_DiskOk.pred x ⟨w.heap.size, 0, none⟩ A0_0 c0_0 l0_0.length W hn ?_ |>.mono fun e w' ⟨he, hw⟩ => ⟨he, hb.trans (hw.mono hb.size)⟩)).mono fun e w' ⟨he, hw⟩ => ⟨he, hB.trans ((hq.trans (hw.mono hq.size)).mono hB.size)⟩
  have hz := hz0
  exact (hb.cell (blc (W1.drewN q) _ hz)).trans hz⟩
 generalize (l0_1.any fun p => !impl_DiskOk.wait l0_0.length p) = AN at HI HE
 obtain ⟨AL, hAL⟩ : ∃ AL, AL = l0_0.all fun s => ((s.size : Int) == 64) := ⟨_, rfl⟩
 rw [← hAL] at HE
 have HAL := am hAL
 clear hAL hr0_1 hc0_1
 have HR0 := am hr0_0
 clear hr0_0 hc0_0
 have HT := impl_between.calls (l0_0.length : Int) 1 1200 (decide ((1 : Int) ≤ (l0_0.length : Int) ∧ (l0_0.length : Int) ≤ 1200))
 have TT := am (impl_DiskOk.btw (l0_0.length : Int) 1 1200)
 generalize decide ((1 : Int) ≤ (l0_0.length : Int) ∧ (l0_0.length : Int) ≤ 1200) = g1 at HT TT HE
 have HB := am hB
 have HW1 := am hW1
 have HZ0 := am hz0
 have HZ1 := am hz1
 clear hB hz0 hz1
 subst hW1
 cases g1 with
 | false =>
  go_enter Try.func18, Try.ntmps18
  go_wp2_with (go_at_call 60; refine (HT _ TT.out).mono ?_; rintro e w' ⟨rfl, ⟨q, rfl⟩⟩)
  go_ret
  exact ⟨by rw [← HE.out]; rfl, by repeat (first | exact HB.out | apply pdn)⟩
 | true =>
  by_cases g2 : l0_1.length ≤ 600
  ·have g2a : decide (600 < (l0_1.length : Int)) = false := decide_eq_false (by omega)
   have g2b : decide (600 < l0_1.length) = false := decide_eq_false (by omega)
   have G2 : Aside0 (decide ((l0_1.length : Int) ≤ 600) = true) := ⟨decide_eq_true (by omega)⟩
   clear g2
   go_enter Try.func18, Try.ntmps18
   go_wp2_with (go_at_call 60; refine (HT _ TT.out).mono ?_; rintro e w' ⟨rfl, ⟨q, rfl⟩⟩)
   go_loopg [19] l0_0.length (fun gg s19 wr => ∃ kk : Nat, kk ≤ l0_0.length ∧ l0_0.length - kk ≤ gg ∧ s19 = .int .i64 kk ∧ Aside0 (Drawn0 (w.alloc (.cells #[.slice A0_0 l0_0.length c0_0, .slice A0_1 l0_1.length c0_1] 30)) wr) ∧ Aside0 (AL = (l0_0.drop kk).all fun s => ((s.size : Int) == 64)))
   case atStart => exact ⟨0, Nat.zero_le _, by omega, rfl, ⟨⟨_, rfl⟩⟩, HAL⟩
   case round =>
    obtain ⟨kk, hkk, hg, rfl, BW, AI⟩ := hrel
    obtain ⟨q, hq⟩ := BW.out.out
    have hz0 : wr.cell? ⟨w.heap.size, 0, none⟩ = some (.slice A0_0 l0_0.length c0_0) := by rw [hq]; exact HZ0.out
    have hz1 : wr.cell? ⟨w.heap.size, 1, none⟩ = some (.slice A0_1 l0_1.length c0_1) := by rw [hq]; exact HZ1.out
    have HBW : Below w.heap.size w wr := by rw [hq]; exact pdn HB.out q
    have HJ : Aside0 (Calls Try.prog 62 #[.slice A0_1 l0_1.length c0_1, .func (.func 63) #[] #[.pointer (some ⟨w.heap.size, 0, none⟩)]] wr fun e w' => e = .returned (.bool AN) ∧ Below w.heap.size w w') := ⟨by rw [hq]; exact HI.out q⟩
    clear hq
    by_cases hlt : kk < l0_0.length
    ·have hltz : (kk : Int) < (l0_0.length : Int) := by omega
     obtain ⟨ad, e, hx0⟩ := Kd.at_string HR0.out (kk : Int) (by omega) hltz
     cases e
     rw [Int.toNat_natCast] at hx0
     replace hx0 := (HBW.cell (blc w _ hx0)).trans hx0
     have HEL : Aside0 (rdOf ByteArray.empty l0_0 (kk : Int) = l0_0[kk]) := ⟨by simp [rdOf, List.getD_eq_getElem?_getD, List.getElem?_eq_getElem hlt]⟩
     have HD : Aside0 (((l0_0.drop kk).all fun s => ((s.size : Int) == 64)) = (((l0_0[kk].size : Int) == 64) && ((l0_0.drop (kk + 1)).all fun s => ((s.size : Int) == 64)))) := ⟨by rw [List.drop_eq_getElem_cons hlt]; rfl⟩
     rw [← HEL.out] at HD
     clear HEL
     generalize rdOf ByteArray.empty l0_0 (kk : Int) = y at hx0 HD
     have HS := impl_sectorOk.calls y ((y.size : Int) == 64)
     have TS := am (show impl_sectorOk.f y = some ((y.size : Int) == 64) from rfl)
     generalize ((y.size : Int) == 64) = b2 at HS TS HD
     have HBW' := am HBW
     clear HBW
     cases b2 with
     | false =>
      go_wp2_with (go_at_call 61; refine (HS _ TS.out).mono ?_; rintro e w' ⟨rfl, ⟨q2, rfl⟩⟩)
      go_ret
      exact ⟨by rw [← HE.out, AI.out, HD.out]; simp, by repeat (first | exact HBW'.out | apply pdn)⟩
     | true =>
      go_wp2_with (go_at_call 61; refine (HS _ TS.out).mono ?_; rintro e w' ⟨rfl, ⟨q2, rfl⟩⟩)
      go_roundg (l0_0.length - (kk + 1))
      case measure => omega
      case rel => exact ⟨kk + 1, by omega, by omega, by go_num, ⟨BW.out.step q2⟩, ⟨by rw [AI.out, HD.out]; rfl⟩⟩
    ·have hltz : ¬ (kk : Int) < (l0_0.length : Int) := by omega
     have HD : Aside0 (AL = true) := ⟨by rw [AI.out, List.drop_of_length_le (by omega)]; rfl⟩
     clear HBW AI
     go_wp2_with (go_at_call 62; refine HJ.out.mono ?_; rintro e w' ⟨rfl, hb⟩)
     go_ret
     exact ⟨by rw [← HE.out, HD.out, G2.out]; simp, hb⟩
  ·have g2a : decide (600 < (l0_1.length : Int)) = true := decide_eq_true (by omega)
   have g2b : decide (600 < l0_1.length) = true := decide_eq_true (by omega)
   have G2 : Aside0 (decide ((l0_1.length : Int) ≤ 600) = false) := ⟨decide_eq_false (by omega)⟩
   clear g2
   go_enter Try.func18, Try.ntmps18
   go_wp2_with (go_at_call 60; refine (HT _ TT.out).mono ?_; rintro e w' ⟨rfl, ⟨q, rfl⟩⟩)
   go_ret
   exact ⟨by rw [← HE.out, G2.out]; simp, by repeat (first | exact HB.out | apply pdn)⟩

/-! ### impl_increasing: function 111 -/
def impl_increasing.l0 : Nat → List Int → Int → Option (Bool)
 | 0, _, _ => none
 | k + 1, x0, x3 => if x3 < (x0.length : Int) then (if 0 ≤ x3 then (if 0 ≤ (wrap64 (x3 - 1)) then (if (wrap64 (x3 - 1)) < (x0.length : Int) then (if (rd x0 x3) ≤ (rd x0 (wrap64 (x3 - 1))) then (some false) else (impl_increasing.l0 k x0 (wrap64 (x3 + 1)))) else (none)) else (none)) else (none)) else (some true)
def impl_increasing.f (k : Nat) (l0 : List Int) : Option (Bool) := impl_increasing.l0 k l0 1
theorem impl_increasing.mono_l : ∀ k, (∀ y0 y1, LeO (impl_increasing.l0 k y0 y1) (impl_increasing.l0 (k + 1) y0 y1))
 | 0 => fun _ _ r h => by simp [impl_increasing.l0] at h
 | k + 1 => by
  have ih0 := impl_increasing.mono_l k
  ·intro y0 y1
   unfold impl_increasing.l0
   repeat' first
   | (with_reducible exact ih0 _ _)
   | (with_reducible exact LeO.refl _)
   | (with_reducible exact LeO.none _)
   | (with_reducible refine LeO.ite ?_ ?_)
   | (with_reducible refine LeO.bind ?_ (fun _ => ?_))
   | exact ih0 _ _
   | exact LeO.none _
   | refine LeO.ite ?_ ?_
   | refine LeO.bind ?_ (fun _ => ?_)
theorem impl_increasing.mono : ∀ a0 k, LeO (impl_increasing.f k a0) (impl_increasing.f (k + 1) a0) := by
 intro a0 k
 have ih0 := impl_increasing.mono_l k
 unfold impl_increasing.f
 repeat' first
   | (with_reducible exact ih0 _ _)
   | (with_reducible exact LeO.refl _)
   | (with_reducible exact LeO.none _)
   | (with_reducible refine LeO.ite ?_ ?_)
   | (with_reducible refine LeO.bind ?_ (fun _ => ?_))
   | exact ih0 _ _
   | exact LeO.none _
   | refine LeO.ite ?_ ?_
   | refine LeO.bind ?_ (fun _ => ?_)
set_option maxHeartbeats 8000000 in
set_option maxRecDepth 100000 in
theorem impl_increasing.calls (k : Nat) (A0 : Option Addr) (c0 : Nat) (l0 : List Int) (r : Bool) (w : World) (hr0 : Kd.C (Kd.int .i64) w A0 l0.length l0) (hc0 : l0.length ≤ c0) (h : impl_increasing.f k l0 = some r) :
  Calls Try.prog 111 #[.slice A0 l0.length c0] w fun e w' => e = .returned (.bool r) ∧ Drawn0 w w' := by
 have HR0 := am hr0
 have HC0 := am hc0
 clear hr0 hc0
 have H : (impl_increasing.l0 k l0 1) = some r := h
 clear h
 have H' := am H
 clear H
 go_enter Try.func111, Try.ntmps111
 go_wp2
 repeat (go_quiet (fail); try go_wp2)
 go_loopg [3] k (fun kq v3 w' => ∃ (x3_1 : Int), v3 = .int .i64 x3_1 ∧ Aside0 (impl_increasing.l0 kq l0 x3_1 = some r) ∧ Aside0 (kq ≤ k) ∧ Drawn0 w w')
 case atStart => exact ⟨(1), (by first | rfl | (simp; done) | (simp [*]; done)), H', ⟨Nat.le_refl _⟩, by repeat (first | exact Drawn0.refl _ | apply Drawn0.step)⟩
 case round =>
  clear H'
  obtain ⟨x3_1, rfl, HA, HK1, ⟨m1, rfl⟩⟩ := hrel
  cases gk with
  | zero => exact absurd HA.out (by simp [impl_increasing.l0])
  | succ k1 =>
   have H := HA.out
   clear HA
   simp only [impl_increasing.l0] at H
   by_cases c2 : x3_1 < (l0.length : Int)
   ·rw [if_pos c2] at H
    have c2b0 : decide (x3_1 < (l0.length : Int)) = true := decide_eq_true c2
    clear c2
    by_cases c3 : 0 ≤ x3_1
    ·rw [if_pos c3] at H
     have c3b0 : decide (0 ≤ x3_1) = true := decide_eq_true c3
     clear c3
     obtain ⟨ji4, hji4⟩ : ∃ j_ : Int, (wrap64 (x3_1 - 1)) = j_ := ⟨_, rfl⟩
     replace H : (if 0 ≤ (ji4) then (if (ji4) < (l0.length : Int) then (if (rd l0 x3_1) ≤ (rd l0 (ji4)) then (some false) else (impl_increasing.l0 k1 l0 (wrap64 (x3_1 + 1)))) else (none)) else (none)) = some r := by first | (rw [hji4] at H; exact H) | (simp only [hji4] at H ⊢; exact H)
     have hji4w : (IntKind.i64.wrap (x3_1 - 1)) = ji4 := (i64_w _).trans hji4
     by_cases c5 : 0 ≤ (ji4)
     ·rw [if_pos c5] at H
      have c5b0 : decide (0 ≤ (ji4)) = true := decide_eq_true c5
      clear c5
      by_cases c6 : (ji4) < (l0.length : Int)
      ·rw [if_pos c6] at H
       have c6b0 : decide ((ji4) < (l0.length : Int)) = true := decide_eq_true c6
       clear c6
       by_cases c7 : (rd l0 x3_1) ≤ (rd l0 (ji4))
       ·rw [if_pos c7] at H
        have c7b0 : decide ((rd l0 x3_1) ≤ (rd l0 (ji4))) = true := decide_eq_true c7
        clear c7
        obtain rfl := Option.some.inj H
        have p198 : 0 ≤ (x3_1 : Int) := of_decide_eq_true (by first | (with_reducible assumption) | assumption)
        have q198 : x3_1 < (l0.length : Int) := of_decide_eq_true (by first | (with_reducible assumption) | assumption)
        obtain ⟨ad198, e198, hx198_0⟩ := Kd.at_int HR0.out x3_1 p198 q198
        cases e198
        replace p198 := eq_true p198
        replace q198 := eq_true q198
        have p199 : 0 ≤ ((ji4) : Int) := of_decide_eq_true (by first | (with_reducible assumption) | assumption)
        have q199 : (ji4) < (l0.length : Int) := of_decide_eq_true (by first | (with_reducible assumption) | assumption)
        obtain ⟨ad199, e199, hx199_0⟩ := Kd.at_int HR0.out (ji4) p199 q199
        obtain rfl : ad198 = ad199 := (by injection e199)
        replace p199 := eq_true p199
        replace q199 := eq_true q199
        go_wp2
        repeat (go_quiet (fail); try go_wp2)
        go_ret
        exact ⟨by first | rfl | (simp; done) | (simp only [← hji4] <;> (first | rfl | simp)) | (simp [*]; done), by repeat (first | exact Drawn0.refl _ | apply Drawn0.step)⟩
       ·rw [if_neg c7] at H
        have c7b0 : decide ((rd l0 x3_1) ≤ (rd l0 (ji4))) = false := decide_eq_false c7
        clear c7
        have H' := am H
        clear H
        have p198 : 0 ≤ (x3_1 : Int) := of_decide_eq_true (by first | (with_reducible assumption) | assumption)
        have q198 : x3_1 < (l0.length : Int) := of_decide_eq_true (by first | (with_reducible assumption) | assumption)
        obtain ⟨ad198, e198, hx198_0⟩ := Kd.at_int HR0.out x3_1 p198 q198
        cases e198
        replace p198 := eq_true p198
        replace q198 := eq_true q198
        have p199 : 0 ≤ ((ji4) : Int) := of_decide_eq_true (by first | (with_reducible assumption) | assumption)
        have q199 : (ji4) < (l0.length : Int) := of_decide_eq_true (by first | (with_reducible assumption) | assumption)
        obtain ⟨ad199, e199, hx199_0⟩ := Kd.at_int HR0.out (ji4) p199 q199
        obtain rfl : ad198 = ad199 := (by injection e199)
        replace p199 := eq_true p199
        replace q199 := eq_true q199
        go_wp2
        repeat (go_quiet (fail); try go_wp2)
        go_roundg k1
        case measure => have := HK1.out; omega
        case rel => exact ⟨(wrap64 (x3_1 + 1)), (by first | rfl | (simp; done) | (simp [*]; done)), H', ⟨by have := HK1.out; omega⟩, by repeat (first | exact Drawn0.refl _ | apply Drawn0.step)⟩
      ·rw [if_neg c6] at H
       exact absurd H (by simp)
     ·rw [if_neg c5] at H
      exact absurd H (by simp)
    ·rw [if_neg c3] at H
     exact absurd H (by simp)
   ·rw [if_neg c2] at H
    have c2b0 : decide (x3_1 < (l0.length : Int)) = false := decide_eq_false c2
    clear c2
    obtain rfl := Option.some.inj H
    go_wp2
    repeat (go_quiet (fail); try go_wp2)
    go_ret
    exact ⟨by first | rfl | (simp; done) | (simp [*]; done), by repeat (first | exact Drawn0.refl _ | apply Drawn0.step)⟩

/-! ### impl_allBetween: function 112 -/
set_option maxHeartbeats 2000000 in
/-- slices.IndexFunc over whole numbers, with the function 130 (captured: two bounds). -/
theorem impl_allBetween.index (b1 b2 : Addr) (p : Int → Bool) (A0 : Option Addr) (c0 : Nat) (l0 : List Int) (w : World) (hr0 : Kd.C (Kd.int .i64) w A0 l0.length l0)
  (hp : ∀ (W : World) (x : Int), Below w.heap.size w W → Calls Try.prog 130 #[.int .i64 x, .pointer (some b1), .pointer (some b2)] W fun e w' => e = .returned (.bool (p x)) ∧ Below w.heap.size w w') :
  Calls Try.prog 140 #[.slice A0 l0.length c0, .func (.func 130) #[] #[.pointer (some b1), .pointer (some b2)]] w fun e w' => e = .returned (.int .i64 (idxP p l0 0)) ∧ Below w.heap.size w w' := by
 have HR0 := am hr0
 have HP := am hp
 have hm : l0.length ≤ 9223372036854775807 := hr0.2.1
 clear hr0 hp
 go_enter Try.func140, Try.ntmps140
 go_wp2
 go_loopg [5, 8] l0.length (fun gg _ s8 wr => ∃ kk : Nat, kk ≤ l0.length ∧ l0.length - kk ≤ gg ∧ s8 = .int .i64 kk ∧ Aside0 (Below w.heap.size w wr) ∧ Aside0 (idxP p l0 0 = idxP p (l0.drop kk) kk))
 case atStart => exact ⟨0, Nat.zero_le _, by omega, rfl, ⟨Below.refl _ w⟩, ⟨rfl⟩⟩
 case round =>
  obtain ⟨kk, hkk, hg, rfl, BW, AI⟩ := hrel
  by_cases hlt : kk < l0.length
  ·have hltz : (kk : Int) < (l0.length : Int) := by omega
   obtain ⟨ad, e, hx⟩ := Kd.at_int HR0.out (kk : Int) (by omega) hltz
   cases e
   rw [Int.toNat_natCast] at hx
   replace hx := (BW.out.cell (blc w _ hx)).trans hx
   have hcall := HP.out wr (rd l0 (kk : Int)) BW.out
   have HD := am (idxP_drop p l0 kk hlt)
   have HE := am (rd_at0 hlt)
   generalize rd l0 (kk : Int) = y at hx hcall HE
   cases hq : p y with
   | true =>
    rw [hq] at hcall
    have HQ := am hq
    clear hq
    go_wp2_with (go_at_call 130; refine hcall.mono ?_; rintro e w' ⟨rfl, hb'⟩)
    go_ret
    refine ⟨?_, hb'⟩
    rw [AI.out, HD.out, ← HE.out, if_pos HQ.out]
    rfl
   | false =>
    rw [hq] at hcall
    have HQ := am hq
    clear hq
    go_wp2_with (go_at_call 130; refine hcall.mono ?_; rintro e w' ⟨rfl, hb'⟩)
    go_roundg (l0.length - (kk + 1))
    case measure => omega
    case rel => exact ⟨kk + 1, by omega, by omega, by go_num, ⟨hb'⟩, ⟨by rw [AI.out, HD.out, ← HE.out, HQ.out]; rfl⟩⟩
  ·have hltz : ¬ (kk : Int) < (l0.length : Int) := by omega
   go_wp2
   go_ret
   refine ⟨?_, BW.out⟩
   rw [AI.out, List.drop_of_length_le (by omega)]
   rfl
set_option maxHeartbeats 2000000 in
/-- slices.ContainsFunc over whole numbers, with the function 130. -/
theorem impl_allBetween.contains (b1 b2 : Addr) (p : Int → Bool) (A0 : Option Addr) (c0 : Nat) (l0 : List Int) (w : World) (hr0 : Kd.C (Kd.int .i64) w A0 l0.length l0)
  (hp : ∀ (W : World) (x : Int), Below w.heap.size w W → Calls Try.prog 130 #[.int .i64 x, .pointer (some b1), .pointer (some b2)] W fun e w' => e = .returned (.bool (p x)) ∧ Below w.heap.size w w') :
  Calls Try.prog 129 #[.slice A0 l0.length c0, .func (.func 130) #[] #[.pointer (some b1), .pointer (some b2)]] w fun e w' => e = .returned (.bool (l0.any p)) ∧ Below w.heap.size w w' := by
 have HI := impl_allBetween.index b1 b2 p A0 c0 l0 w hr0 hp
 have HQ := am (idxP_dec p l0)
 clear hr0 hp
 generalize idxP p l0 0 = q at HI HQ
 generalize l0.any p = b at HQ
 go_enter Try.func129, Try.ntmps129
 go_wp2_with (go_at_call 140; refine HI.mono ?_; rintro e w' ⟨rfl, hb⟩)
 go_ret
 exact ⟨by rw [← HQ.out]; rfl, hb⟩
def impl_allBetween.f (l0 : List Int) (a1 : Int) (a2 : Int) : Option (Bool) := some (!l0.any fun n => !decide (a1 ≤ n ∧ n ≤ a2))
theorem impl_allBetween.btw (a b c : Int) : impl_between.f a b c = some (decide (b ≤ a ∧ a ≤ c)) := by
 unfold impl_between.f
 by_cases h : a ≥ b
 ·have h' : b ≤ a := h
  simp [h, h']
 ·have h' : ¬ b ≤ a := h
  simp [h, h']
set_option maxHeartbeats 2000000 in
theorem impl_allBetween.pred (x lo hi : Int) (b1 b2 : Addr) (W : World) (h1 : W.cell? b1 = some (.int .i64 lo)) (h2 : W.cell? b2 = some (.int .i64 hi)) :
  Calls Try.prog 130 #[.int .i64 x, .pointer (some b1), .pointer (some b2)] W fun e w' => e = .returned (.bool (!decide (lo ≤ x ∧ x ≤ hi))) ∧ Drawn0 W w' := by
 have HB := impl_between.calls x lo hi (decide (lo ≤ x ∧ x ≤ hi))
 have HT := am (impl_allBetween.btw x lo hi)
 generalize decide (lo ≤ x ∧ x ≤ hi) = b at HB HT
 go_enter Try.func130, Try.ntmps130
 go_wp2_with (go_at_call 60; refine (HB _ HT.out).mono ?_; rintro e w' ⟨rfl, hd⟩)
 go_ret
 exact ⟨rfl, hd⟩
set_option maxHeartbeats 2000000 in
theorem impl_allBetween.calls (A0 : Option Addr) (c0 : Nat) (l0 : List Int) (a1 : Int) (a2 : Int) (r : Bool) (w : World) (hr0 : Kd.C (Kd.int .i64) w A0 l0.length l0) (hc0 : l0.length ≤ c0) (h : impl_allBetween.f l0 a1 a2 = some r) :
  Calls Try.prog 112 #[.slice A0 l0.length c0, .int .i64 a1, .int .i64 a2] w fun e w' => e = .returned (.bool r) ∧ Below w.heap.size w w' := by
 obtain rfl := Option.some.inj h
 clear h
 have hB : Below w.heap.size w ((w.alloc (.cells #[.int .i64 a1] 2)).alloc (.cells #[.int .i64 a2] 2)) := ((Below.refl _ _).alloc (Nat.le_refl _) _).alloc (by simp) _
 have HI := impl_allBetween.contains ⟨w.heap.size, 0, none⟩ ⟨w.heap.size + 1, 0, none⟩ (fun n => !decide (a1 ≤ n ∧ n ≤ a2)) A0 c0 l0 ((w.alloc (.cells #[.int .i64 a1] 2)).alloc (.cells #[.int .i64 a2] 2)) (Kd.C_below hr0 hB) (fun W x hb => by
  refine (impl_allBetween.pred x a1 a2 _ _ W ?_ ?_).mono fun e w' ⟨he, hw⟩ => ⟨he, hb.trans (hw.below.mono hb.size)⟩
  ·rw [hb.cell (by simp <;> omega)]; simp
  ·rw [hb.cell (by simp <;> omega)]; simp)
 generalize (l0.any fun n => !decide (a1 ≤ n ∧ n ≤ a2)) = b at HI
 clear hr0 hc0
 have HBB := am hB
 clear hB
 go_enter Try.func112, Try.ntmps112
 go_wp2_with (go_at_call 129; refine HI.mono ?_; rintro e w' ⟨rfl, hb⟩)
 go_ret
 exact ⟨rfl, HBB.out.trans (hb.mono HBB.out.size)⟩

/-! ### impl_Disk_lossOk: function 77 -/
def impl_Disk_lossOk.f (k : Nat) (l0_0 : List ByteArray) (l0_1 : List (S55)) (l1 : List Int) (a2 : Int) : Option (Bool) := (impl_increasing.f k l1).bind fun t201 => (if t201 = true then ((impl_allBetween.f l1 0 (wrap64 ((l0_1.length : Int) - 1))).bind fun t202 => (if t202 = true then ((impl_between.f a2 (-1) 64).bind fun t203 => (some t203)) else (some false))) else (some false))
theorem impl_Disk_lossOk.mono : ∀ a0 a1 a2 a3 k, LeO (impl_Disk_lossOk.f k a0 a1 a2 a3) (impl_Disk_lossOk.f (k + 1) a0 a1 a2 a3) := by
 intro a0 a1 a2 a3 k
 unfold impl_Disk_lossOk.f
 repeat' first
   | (with_reducible exact impl_increasing.mono _ _)
   | (with_reducible exact LeO.refl _)
   | (with_reducible exact LeO.none _)
   | (with_reducible refine LeO.ite ?_ ?_)
   | (with_reducible refine LeO.bind ?_ (fun _ => ?_))
   | exact impl_increasing.mono _ _
   | exact LeO.none _
   | refine LeO.ite ?_ ?_
   | refine LeO.bind ?_ (fun _ => ?_)
set_option maxHeartbeats 8000000 in
set_option maxRecDepth 100000 in
theorem impl_Disk_lossOk.calls (k : Nat) (A0_0 : Option Addr) (c0_0 : Nat) (l0_0 : List ByteArray) (A0_1 : Option Addr) (c0_1 : Nat) (l0_1 : List (S55)) (A1 : Option Addr) (c1 : Nat) (l1 : List Int) (a2 : Int) (r : Bool) (w : World) (hr0_0 : Kd.C Kd.string w A0_0 l0_0.length l0_0) (hc0_0 : l0_0.length ≤ c0_0) (hr0_1 : Kd.C k55 w A0_1 l0_1.length l0_1) (hc0_1 : l0_1.length ≤ c0_1) (hr1 : Kd.C (Kd.int .i64) w A1 l1.length l1) (hc1 : l1.length ≤ c1) (h : impl_Disk_lossOk.f k l0_0 l0_1 l1 a2 = some r) :
  Calls Try.prog 77 #[.agg #[.slice A0_0 l0_0.length c0_0, .slice A0_1 l0_1.length c0_1], .slice A1 l1.length c1, .int .i64 a2] w fun e w' => e = .returned (.bool r) ∧ Below w.heap.size w w' := by
 have hu30 := Try.underlying30
 have HR0_0 := am hr0_0
 have HC0_0 := am hc0_0
 clear hr0_0 hc0_0
 have HR0_1 := am hr0_1
 have HC0_1 := am hc0_1
 clear hr0_1 hc0_1
 have HR1 := am hr1
 have HC1 := am hc1
 clear hr1 hc1
 have HB := am (Below.refl w.heap.size w)
 have H : ((impl_increasing.f k l1).bind fun t201 => (if t201 = true then ((impl_allBetween.f l1 0 (wrap64 ((l0_1.length : Int) - 1))).bind fun t202 => (if t202 = true then ((impl_between.f a2 (-1) 64).bind fun t203 => (some t203)) else (some false))) else (some false))) = some r := h
 clear h
 replace H := Option.bind_eq_some_iff.mp H
 obtain ⟨t201, A40, H⟩ := H
 replace H : (if t201 = true then ((impl_allBetween.f l1 0 (wrap64 ((l0_1.length : Int) - 1))).bind fun t202 => (if t202 = true then ((impl_between.f a2 (-1) 64).bind fun t203 => (some t203)) else (some false))) else (some false)) = some r := H
 have A4 := am A40
 clear A40
 by_cases c5 : t201 = true
 ·subst c5
  have H1 : ((impl_allBetween.f l1 0 (wrap64 ((l0_1.length : Int) - 1))).bind fun t202 => (if t202 = true then ((impl_between.f a2 (-1) 64).bind fun t203 => (some t203)) else (some false))) = some r := by rw [if_pos rfl] at H; exact H
  clear H
  have H := H1
  clear H1
  replace H := Option.bind_eq_some_iff.mp H
  obtain ⟨t202, A60, H⟩ := H
  replace H : (if t202 = true then ((impl_between.f a2 (-1) 64).bind fun t203 => (some t203)) else (some false)) = some r := H
  have A6 := am A60
  clear A60
  by_cases c7 : t202 = true
  ·subst c7
   have H1 : ((impl_between.f a2 (-1) 64).bind fun t203 => (some t203)) = some r := by rw [if_pos rfl] at H; exact H
   clear H
   have H := H1
   clear H1
   replace H := Option.bind_eq_some_iff.mp H
   obtain ⟨t203, A80, H⟩ := H
   replace H : (some t203) = some r := H
   have A8 := am A80
   clear A80
   obtain rfl := Option.some.inj H
   go_enter Try.func77, Try.ntmps77
   go_wp2_with (first | ((with_reducible refine gate_dst (N := 3) rfl ?_); (try (refine gate_guard (by rfl) ?_; dsimp only)); refine box_event ?hg (N := 3) ?hd (cs := #[.slice A0_0 l0_0.length c0_0, .slice A0_1 l0_1.length c0_1]) (t := 30) ?hr ?_; (case hd => rfl); (case hg => rfl); (case hr => first | (go_simp; done) | (go_simp; rfl)); intro gb200 hg w9 hbox hb; have n0_ := am (below_step (by repeat (first | (with_reducible first | exact HB.out | apply bal | apply pdn | apply bd1) | exact HB.out)) hb); have n1_ := am (hbox); have n2_ := am ((by rw [hg]; exact (below_size (by repeat (first | (with_reducible first | exact HB.out | apply bal | apply pdn | apply bd1) | exact HB.out))) : w.heap.size ≤ gb200)); have n3_ := am ((by rw [hg]; exact (below_size (by repeat (first | (with_reducible first | exact HB.out | apply bal | apply pdn | apply bd1) | exact HB.out))) : w.heap.size ≤ gb200)); clear HB; have HB := n0_; have BK200 := n1_; have GW200 := n2_; have GE200 := n3_; clear n0_ n1_ n2_ n3_; clear hb hbox hg) | ((with_reducible refine gate_callee (f := 111) rfl ?_); refine goesL_ (some 8) rfl rfl Try.func111 (by kernel_rfl) rfl #[.slice A1 l1.length c1] rfl (by (try simp only [mta, mco, mni]); first | done | rfl | (simp only [lnd, lnt]; rfl)) ?_; (with_reducible refine (impl_increasing.calls k _ _ l1 true _ ?side1 ?side2 A4.out).mono ?_); (case side1 => repeat (first | exact (Kd.C_below HR1.out HB.out) | (with_reducible first | apply kca | apply kcn | apply kcd))); (case side2 => exact HC1.out); rintro e w' ⟨rfl, ⟨nd, rfl⟩⟩; refine ⟨_, rfl, ?_⟩; have hcz10_0 : w9.cell? ⟨gb200, 0, none⟩ = some (.slice A0_0 l0_0.length c0_0) := (kce BK200.out 0).trans rfl; have hcz10_1 : w9.cell? ⟨gb200, 1, none⟩ = some (.slice A0_1 l0_1.length c0_1) := (kce BK200.out 1).trans rfl; have hfz10_0 := kfr BK200.out 0; have hfz10_1 := kfr BK200.out 1) | (go_at_call 112; (with_reducible refine (impl_allBetween.calls _ _ l1 0 (wrap64 ((l0_1.length : Int) - 1)) true _ ?side1 ?side2 A6.out).mono ?_); (case side1 => repeat (first | exact (Kd.C_below HR1.out (by repeat (first | (with_reducible first | exact HB.out | apply bal | apply pdn | apply bd1 | refine bst ?_ GE200.out) | exact HB.out))) | (with_reducible first | apply kca | apply kcn | apply kcd))); (case side2 => exact HC1.out); rintro e w11 ⟨rfl, hb⟩; have n0_ := am (kbb (g := gb200) (o := .cells #[.slice A0_0 l0_0.length c0_0, .slice A0_1 l0_1.length c0_1] 30 (0, 0)) (by (with_reducible repeat (first | apply kdn | apply kdr | apply kal)); exact BK200.out) hb); have n1_ := am (below_step (by repeat (first | (with_reducible first | exact HB.out | apply bal | apply pdn | apply bd1 | refine bst ?_ GE200.out) | exact HB.out)) hb); clear BK200; clear HB; have BK200 := n0_; have HB := n1_; clear n0_ n1_; (try clear hb); (try clear hb2); (try clear hk); (try clear hi)) | (go_at_call 60; (with_reducible refine (impl_between.calls a2 (-1) 64 t203 _ A8.out).mono ?_); rintro e w' ⟨rfl, ⟨nd, rfl⟩⟩))
   go_ret
   exact ⟨by first | rfl | (simp [errW_none, errW_some] <;> rfl) | (simp [*, errW_none, errW_some] <;> rfl), by repeat (first | (with_reducible first | exact HB.out | apply bal | apply pdn | apply bd1 | refine bst ?_ GE200.out) | exact HB.out)⟩
  ·replace c7 := Bool.eq_false_iff.mpr c7
   subst c7
   have H1 : (some false) = some r := by rw [if_neg (show ¬ (false = true) by decide)] at H; exact H
   clear H
   have H := H1
   clear H1
   obtain rfl := Option.some.inj H
   go_enter Try.func77, Try.ntmps77
   go_wp2_with (first | ((with_reducible refine gate_dst (N := 3) rfl ?_); (try (refine gate_guard (by rfl) ?_; dsimp only)); refine box_event ?hg (N := 3) ?hd (cs := #[.slice A0_0 l0_0.length c0_0, .slice A0_1 l0_1.length c0_1]) (t := 30) ?hr ?_; (case hd => rfl); (case hg => rfl); (case hr => first | (go_simp; done) | (go_simp; rfl)); intro gb200 hg w12 hbox hb; have n0_ := am (below_step (by repeat (first | (with_reducible first | exact HB.out | apply bal | apply pdn | apply bd1) | exact HB.out)) hb); have n1_ := am (hbox); have n2_ := am ((by rw [hg]; exact (below_size (by repeat (first | (with_reducible first | exact HB.out | apply bal | apply pdn | apply bd1) | exact HB.out))) : w.heap.size ≤ gb200)); have n3_ := am ((by rw [hg]; exact (below_size (by repeat (first | (with_reducible first | exact HB.out | apply bal | apply pdn | apply bd1) | exact HB.out))) : w.heap.size ≤ gb200)); clear HB; have HB := n0_; have BK200 := n1_; have GW200 := n2_; have GE200 := n3_; clear n0_ n1_ n2_ n3_; clear hb hbox hg) | ((with_reducible refine gate_callee (f := 111) rfl ?_); refine goesL_ (some 8) rfl rfl Try.func111 (by kernel_rfl) rfl #[.slice A1 l1.length c1] rfl (by (try simp only [mta, mco, mni]); first | done | rfl | (simp only [lnd, lnt]; rfl)) ?_; (with_reducible refine (impl_increasing.calls k _ _ l1 true _ ?side1 ?side2 A4.out).mono ?_); (case side1 => repeat (first | exact (Kd.C_below HR1.out HB.out) | (with_reducible first | apply kca | apply kcn | apply kcd))); (case side2 => exact HC1.out); rintro e w' ⟨rfl, ⟨nd, rfl⟩⟩; refine ⟨_, rfl, ?_⟩; have hcz13_0 : w12.cell? ⟨gb200, 0, none⟩ = some (.slice A0_0 l0_0.length c0_0) := (kce BK200.out 0).trans rfl; have hcz13_1 : w12.cell? ⟨gb200, 1, none⟩ = some (.slice A0_1 l0_1.length c0_1) := (kce BK200.out 1).trans rfl; have hfz13_0 := kfr BK200.out 0; have hfz13_1 := kfr BK200.out 1) | (go_at_call 112; (with_reducible refine (impl_allBetween.calls _ _ l1 0 (wrap64 ((l0_1.length : Int) - 1)) false _ ?side1 ?side2 A6.out).mono ?_); (case side1 => repeat (first | exact (Kd.C_below HR1.out (by repeat (first | (with_reducible first | exact HB.out | apply bal | apply pdn | apply bd1 | refine bst ?_ GE200.out) | exact HB.out))) | (with_reducible first | apply kca | apply kcn | apply kcd))); (case side2 => exact HC1.out); rintro e w14 ⟨rfl, hb⟩; have n0_ := am (kbb (g := gb200) (o := .cells #[.slice A0_0 l0_0.length c0_0, .slice A0_1 l0_1.length c0_1] 30 (0, 0)) (by (with_reducible repeat (first | apply kdn | apply kdr | apply kal)); exact BK200.out) hb); have n1_ := am (below_step (by repeat (first | (with_reducible first | exact HB.out | apply bal | apply pdn | apply bd1 | refine bst ?_ GE200.out) | exact HB.out)) hb); clear BK200; clear HB; have BK200 := n0_; have HB := n1_; clear n0_ n1_; (try clear hb); (try clear hb2); (try clear hk); (try clear hi)))
   go_ret
   exact ⟨by first | rfl | (simp [errW_none, errW_some] <;> rfl) | (simp [*, errW_none, errW_some] <;> rfl), by repeat (first | (with_reducible first | exact HB.out | apply bal | apply pdn | apply bd1 | refine bst ?_ GE200.out) | exact HB.out)⟩
 ·replace c5 := Bool.eq_false_iff.mpr c5
  subst c5
  have H1 : (some false) = some r := by rw [if_neg (show ¬ (false = true) by decide)] at H; exact H
  clear H
  have H := H1
  clear H1
  obtain rfl := Option.some.inj H
  go_enter Try.func77, Try.ntmps77
  go_wp2_with (first | ((with_reducible refine gate_dst (N := 3) rfl ?_); (try (refine gate_guard (by rfl) ?_; dsimp only)); refine box_event ?hg (N := 3) ?hd (cs := #[.slice A0_0 l0_0.length c0_0, .slice A0_1 l0_1.length c0_1]) (t := 30) ?hr ?_; (case hd => rfl); (case hg => rfl); (case hr => first | (go_simp; done) | (go_simp; rfl)); intro gb200 hg w15 hbox hb; have n0_ := am (below_step (by repeat (first | (with_reducible first | exact HB.out | apply bal | apply pdn | apply bd1) | exact HB.out)) hb); have n1_ := am (hbox); have n2_ := am ((by rw [hg]; exact (below_size (by repeat (first | (with_reducible first | exact HB.out | apply bal | apply pdn | apply bd1) | exact HB.out))) : w.heap.size ≤ gb200)); have n3_ := am ((by rw [hg]; exact (below_size (by repeat (first | (with_reducible first | exact HB.out | apply bal | apply pdn | apply bd1) | exact HB.out))) : w.heap.size ≤ gb200)); clear HB; have HB := n0_; have BK200 := n1_; have GW200 := n2_; have GE200 := n3_; clear n0_ n1_ n2_ n3_; clear hb hbox hg) | ((with_reducible refine gate_callee (f := 111) rfl ?_); refine goesL_ (some 8) rfl rfl Try.func111 (by kernel_rfl) rfl #[.slice A1 l1.length c1] rfl (by (try simp only [mta, mco, mni]); first | done | rfl | (simp only [lnd, lnt]; rfl)) ?_; (with_reducible refine (impl_increasing.calls k _ _ l1 false _ ?side1 ?side2 A4.out).mono ?_); (case side1 => repeat (first | exact (Kd.C_below HR1.out HB.out) | (with_reducible first | apply kca | apply kcn | apply kcd))); (case side2 => exact HC1.out); rintro e w' ⟨rfl, ⟨nd, rfl⟩⟩; refine ⟨_, rfl, ?_⟩))
  go_ret
  exact ⟨by first | rfl | (simp [errW_none, errW_some] <;> rfl) | (simp [*, errW_none, errW_some] <;> rfl), by repeat (first | (with_reducible first | exact HB.out | apply bal | apply pdn | apply bd1 | refine bst ?_ GE200.out) | exact HB.out)⟩

/-! ### slices_Clone_string_string: function 107 -/
def slices_Clone_string_string.f (l0 : List ByteArray) : Option (List ByteArray) := if l0.length < 8796093022208 then some l0 else none
set_option maxHeartbeats 8000000 in
set_option maxRecDepth 100000 in
theorem slices_Clone_string_string.calls (A0 : Option Addr) (c0 : Nat) (l0 : List ByteArray) (r : List ByteArray) (w : World) (hr0 : Kd.C Kd.string w A0 l0.length l0) (hc0 : l0.length ≤ c0) (h : slices_Clone_string_string.f l0 = some r) :
  Calls Try.prog 107 #[.slice A0 l0.length c0] w fun e w' => ∃ v0_ : Value, e = .returned (v0_) ∧ Kd.R Kd.string 9 w' w.heap.size (fun _ => True) v0_ r ∧ Below w.heap.size w w' := by
 have c2 : l0.length < 8796093022208 := by
  by_cases c2 : l0.length < 8796093022208
  ·exact c2
  ·rw [slices_Clone_string_string.f, if_neg c2] at h; exact absurd h (by simp)
 rw [slices_Clone_string_string.f, if_pos c2] at h
 obtain rfl := Option.some.inj h
 clear h
 have q22 : ∀ (w : World) (a : Option Addr) (n c n' c' : Nat), (binOp .eql 22 (.slice a n c) (.slice none n' c')).run Try.prog w = .ok (.bool a.isNone) w := fun w a n c n' c' => Lib.run_eql_slice_nil w _ _ a n c n' c' Try.underlying22
 cases A0 with
 | none =>
  have hz : l0 = [] := by
   cases l0 with
   | nil => rfl
   | cons x xs =>
    obtain ⟨ad, hA, _⟩ := hr0.2.2 (by simp)
    cases hA
  subst hz
  clear hr0 hc0 c2
  go_enter Try.func107, Try.ntmps107
  go_wp2
  go_ret
  exact ⟨_, rfl, Kd.R_nil _ _ _ _ _, Below.refl _ _⟩
 | some A =>
  have HR0 := am hr0
  have HC0 := am hc0
  clear hr0 hc0
  have LMc2 := am c2
  clear c2
  have HB := am (Below.refl w.heap.size w)
  go_enter Try.func107, Try.ntmps107
  go_wp2_with (first | ((with_reducible refine gate_dst (N := 5) rfl ?_); refine Kd.R_lit Kd.string _ 9 ?hg (N := 5) ?hd (xs := ([] : List ByteArray)) (inner := []) (ok := fun _ => True) (okp := fun _ => True) ?hr ?hp (fun _ hk => hk) trivial (Below.refl _ _) (Nat.le_refl _) (by simp) ?_; (case hd => rfl); (case hg => rfl); (case hr => first | (go_simp; done) | (go_simp; rfl)); (case hp => exact (Reps.none _ _)); intro v351 w3 ho4 hb hg_ hnew_; clear hg_ hnew_; have n0_ := am (Kd.R_lower ho4 (below_size HB.out)); have n1_ := am (below_step HB.out hb); clear HB; have HO352 := n0_; have HB := n1_; clear n0_ n1_; clear hb ho4) | ((with_reducible refine gate_builtin (b := .append) (xs := #[.tmp 5, .tmp 6]) rfl ?_); at_builtin; refine Kd.R_append_rows Kd.string (w0 := w) w.heap.size rfl (.tmp 5) (.tmp 6) 22 9 (.string ⟨#[]⟩) 16 rfl Try.underlying22 info9 rfl (by decide) (by omega) v351 [] l0 _ _ _ (fun _ => True) (fun _ => False) rfl rfl ?aO ?aR (fun _ _ h => h) (fun _ h => h.elim) ?aF ?aB ?aS ?aL ?_; (case aR => exact (Kd.C_below HR0.out HB.out)); (case aB => exact HB.out); (case aF => exact (fun _ _ => trivial)); (case aO => exact HO352.out); (case aS => exact (below_size HB.out)); (case aL => have := LMc2.out; simp only [List.length_nil]; omega); intro v354 w5 ho hb hg hat; have n0_ := am (hb); have n1_ := am (ho); clear HB; clear HO352; have HB := n0_; have HO355 := n1_; clear n0_ n1_; clear ho hb hg hat))
  go_ret
  exact ⟨_, rfl, by simpa using HO355.out, HB.out⟩


end Go.Proofs.Ythphhklbliambaa.MFnExactPowerLoss
