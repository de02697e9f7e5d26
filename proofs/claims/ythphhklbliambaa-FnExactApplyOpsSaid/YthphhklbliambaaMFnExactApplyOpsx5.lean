-- Written by a program of this session (wip/tools/myprint.py) over the kit's print: it is not the kit's print.
import Derived.Test.YthphhklbliambaaExtra
import Derived.Test.YthphhklbliambaaMFnExactApplyOpsx0
import Derived.Test.YthphhklbliambaaMFnExactApplyOpsx1
import Derived.Test.YthphhklbliambaaMFnExactApplyOpsx3
import Derived.Test.YthphhklbliambaaMFnExactApplyOpsx4
namespace Go.Proofs.Ythphhklbliambaa.MFnExactApplyOps
open Go.RowKit Go.Proofs.YthphhklbliambaaW.PrintWords Go.Proofs.YthphhklbliambaaW.PrintLast Go.Proofs.YthphhklbliambaaW.PrintMore
open List renaming setIfInBounds_toArray → sit, set_cons_zero → scz, set_cons_succ → scs, map_toArray → mta, map_cons → mco, map_nil → mni, length_drop → lnd, length_take → lnt
open World renaming block_lt_of_cell? → blc
attribute [local go_sem] max2_int min2_int max_two min_two max_three min_three max_four min_four   -- for this text's walks alone
set_option linter.unusedVariables false
set_option linter.unusedSimpArgs false

/-! ### impl_ApplyOps: function 48 -/
set_option maxHeartbeats 4000000 in
set_option maxRecDepth 100000 in
theorem impl_ApplyOps.index  (p : S60 → Bool) (A0 : Option Addr) (c0 : Nat) (l0 : List S60) (w : World) (hr0 : Kd.C k60 w A0 l0.length l0)
  (hp : ∀ (W : World) (x : S60) , Below w.heap.size w W → x ∈ l0 → Calls Try.prog 98 #[.agg #[.int .i64 x.f0, .int .i64 x.f1, .string x.f2]] W fun e w' => e = .returned (.bool (p x)) ∧ Below w.heap.size w w') :
  Calls Try.prog 123 #[.slice A0 l0.length c0, .func (.func 98) #[] #[]] w fun e w' => e = .returned (.int .i64 (idxP p l0 0)) ∧ Below w.heap.size w w' := by
 have HR0 := am hr0
 have HP := am hp
 have hm : l0.length ≤ 9223372036854775807 := hr0.2.1
 clear hr0 hp
 go_enter Try.func123, Try.ntmps123
 go_wp2
 go_loopg [5, 8] l0.length (fun gg _ s8 wr => ∃ kk : Nat, kk ≤ l0.length ∧ l0.length - kk ≤ gg ∧ s8 = .int .i64 kk ∧ Aside0 (Below w.heap.size w wr) ∧ Aside0 (idxP p l0 0 = idxP p (l0.drop kk) kk))
 case atStart => exact ⟨0, Nat.zero_le _, by omega, rfl, ⟨Below.refl _ w⟩, ⟨rfl⟩⟩
 case round =>
  obtain ⟨kk, hkk, hg, rfl, BW, AI⟩ := hrel
  by_cases hlt : kk < l0.length
  ·have hltz : (kk : Int) < (l0.length : Int) := by omega
   obtain ⟨ad, e, hx0, hx1, hx2⟩ := at_T60 HR0.out (kk : Int) (by omega) hltz
   cases e
   rw [Int.toNat_natCast] at hx0
   replace hx0 := (BW.out.cell (blc w _ hx0)).trans hx0
   rw [Int.toNat_natCast] at hx1
   replace hx1 := (BW.out.cell (blc w _ hx1)).trans hx1
   rw [Int.toNat_natCast] at hx2
   replace hx2 := (BW.out.cell (blc w _ hx2)).trans hx2
   have HE : Aside0 (rd_T60 l0 (kk : Int) = l0[kk]) := ⟨by simp [rd_T60, List.getD_eq_getElem?_getD, List.getElem?_eq_getElem hlt]⟩
   have hcall := HP.out wr (rd_T60 l0 (kk : Int))  BW.out (by rw [HE.out]; exact List.getElem_mem hlt)
   have HD := am (idxP_drop p l0 kk hlt)
   generalize rd_T60 l0 (kk : Int) = y at hx0 hx1 hx2 hcall HE
   cases hq : p y with
   | true =>
    rw [hq] at hcall
    have HQ := am hq
    clear hq
    go_wp2_with (go_at_call 98; refine hcall.mono ?_; rintro e w' ⟨rfl, hb'⟩)
    go_ret
    refine ⟨?_, hb'⟩
    rw [AI.out, HD.out, ← HE.out, if_pos HQ.out]
    rfl
   | false =>
    rw [hq] at hcall
    have HQ := am hq
    clear hq
    go_wp2_with (go_at_call 98; refine hcall.mono ?_; rintro e w' ⟨rfl, hb'⟩)
    go_roundg (l0.length - (kk + 1))
    case measure => omega
    case rel => exact ⟨kk + 1, by omega, by omega, by go_num, ⟨hb'⟩, ⟨by rw [AI.out, HD.out, ← HE.out, HQ.out]; rfl⟩⟩
  ·have hltz : ¬ (kk : Int) < (l0.length : Int) := by omega
   go_wp2
   go_ret
   refine ⟨?_, BW.out⟩
   rw [AI.out, List.drop_of_length_le (by omega)]
   rfl
set_option maxHeartbeats 2000000 in
theorem impl_ApplyOps.contains  (p : S60 → Bool) (A0 : Option Addr) (c0 : Nat) (l0 : List S60) (w : World) (hr0 : Kd.C k60 w A0 l0.length l0)
  (hp : ∀ (W : World) (x : S60) , Below w.heap.size w W → x ∈ l0 → Calls Try.prog 98 #[.agg #[.int .i64 x.f0, .int .i64 x.f1, .string x.f2]] W fun e w' => e = .returned (.bool (p x)) ∧ Below w.heap.size w w') :
  Calls Try.prog 97 #[.slice A0 l0.length c0, .func (.func 98) #[] #[]] w fun e w' => e = .returned (.bool (l0.any p)) ∧ Below w.heap.size w w' := by
 have HI := impl_ApplyOps.index  p A0 c0 l0 w hr0 hp
 have HQ := am (idxP_dec p l0)
 clear hr0 hp
 generalize idxP p l0 0 = q at HI HQ
 generalize l0.any p = b at HQ
 go_enter Try.func97, Try.ntmps97
 go_wp2_with (go_at_call 123; refine HI.mono ?_; rintro e w' ⟨rfl, hb⟩)
 go_ret
 exact ⟨by rw [← HQ.out]; rfl, hb⟩
def impl_ApplyOps.okB (x : S60) : Bool := (impl_OpOk.f 2 1 0 x.f0 x.f1 x.f2).getD false
def impl_ApplyOps.l0 : ByteArray → Bool → List S60 → Option (ByteArray × Bool)
 | b, t, [] => some (b, t)
 | b, t, o :: l => (impl_Op_apply.f 2 o.f0 o.f1 o.f2 b t).bind fun r => impl_ApplyOps.l0 r.1 r.2 l
def impl_ApplyOps.f (b : ByteArray) (t : Bool) (l : List S60) : Option (ByteArray × Bool) :=
 if l.length ≤ 24 ∧ b.size ≤ 64 then (if (l.all fun x => (impl_OpOk.f 2 1 0 x.f0 x.f1 x.f2).isSome) = true then (if (l.any fun x => !impl_ApplyOps.okB x) = true then some ((⟨#[]⟩ : ByteArray), false) else impl_ApplyOps.l0 (if t = true then b else (⟨#[]⟩ : ByteArray)) t l) else none) else some ((⟨#[]⟩ : ByteArray), false)
set_option maxHeartbeats 2000000 in
set_option maxRecDepth 100000 in
theorem impl_ApplyOps.pred (x : S60) (v : Bool) (W : World) (hv : impl_OpOk.f 2 1 0 x.f0 x.f1 x.f2 = some v) :
  Calls Try.prog 98 #[.agg #[.int .i64 x.f0, .int .i64 x.f1, .string x.f2]] W fun e w' => e = .returned (.bool (!v)) ∧ Below W.heap.size W w' := by
 have HV := am hv
 clear hv
 have HS0 : Aside0 ((fun w' => w'.cell? ⟨W.heap.size, 0, none⟩ = some (.int .i64 x.f0) ∧ w'.cell? ⟨W.heap.size, 1, none⟩ = some (.int .i64 x.f1) ∧ w'.cell? ⟨W.heap.size, 2, none⟩ = some (.string x.f2) ∧ Below W.heap.size W w') ((W.alloc (.cells #[.int .i64 x.f0, .int .i64 x.f1, .string x.f2] 60)).drew)) := ⟨⟨by simp, by simp, by simp, ((Below.refl W.heap.size W).alloc (Nat.le_refl _) _).drew⟩⟩
 have HKP : Aside0 (∀ w1 w2, (fun w' => w'.cell? ⟨W.heap.size, 0, none⟩ = some (.int .i64 x.f0) ∧ w'.cell? ⟨W.heap.size, 1, none⟩ = some (.int .i64 x.f1) ∧ w'.cell? ⟨W.heap.size, 2, none⟩ = some (.string x.f2) ∧ Below W.heap.size W w') w1 → Below w1.heap.size w1 w2 → (fun w' => w'.cell? ⟨W.heap.size, 0, none⟩ = some (.int .i64 x.f0) ∧ w'.cell? ⟨W.heap.size, 1, none⟩ = some (.int .i64 x.f1) ∧ w'.cell? ⟨W.heap.size, 2, none⟩ = some (.string x.f2) ∧ Below W.heap.size W w') w2) := ⟨fun w1 w2 ⟨q0, q1, q2, q3⟩ hb => ⟨(hb.cell (blc w1 _ q0)).trans q0, (hb.cell (blc w1 _ q1)).trans q1, (hb.cell (blc w1 _ q2)).trans q2, q3.trans (hb.mono q3.size)⟩⟩
 cases v
 all_goals
  go_enter Try.func98, Try.ntmps98
  go_wp2
  refine start_ (n := 5) (S := fun w' => w'.cell? ⟨W.heap.size, 0, none⟩ = some (.int .i64 x.f0) ∧ w'.cell? ⟨W.heap.size, 1, none⟩ = some (.int .i64 x.f1) ∧ w'.cell? ⟨W.heap.size, 2, none⟩ = some (.string x.f2) ∧ Below W.heap.size W w') (ds := []) #[false, false, false, false, false] (by kernel_rfl) rfl rfl (HS0.out) (fun hHeld => ?_)
  generalize (W.alloc (.cells #[.int .i64 x.f0, .int .i64 x.f1, .string x.f2] 60)).drew = w9 at hHeld ⊢
  refine take_ (i := 1) (N := some 4) (v := ?_) (a' := ?_) #[false, true, false, false, false] rfl rfl (by kernel_rfl) (fun _ _ _ h => h) (Or.inl ⟨by rfl, ?_⟩) hHeld ?_ ?_
  rotate_left
  ·rintro w' ⟨s0, s1, s2, s3⟩
   go_simp
   with_reducible rfl
  rotate_left
  ·simp only [Act.put, sit, scz, scs, i64_w, i32_w]
   rfl
  refine one_ (i := 0) (N := some 3) #[true, true, false, false, false] rfl rfl (by kernel_rfl) (by decide) (fun K hK => ?_)
  refine goes_ Try.func87 (by kernel_rfl) rfl #[] (by rfl) rfl rfl (by (try simp only [mta, mco, mni]); first | done | rfl) ?_
  with_reducible refine (impl_plainCode.calls 1 0 _ rfl).mono ?_
  rintro e w2 ⟨rfl, hb⟩
  refine ⟨_, rfl, ?_⟩
  refine hK.out _ _ (HKP.out _ _ hHeld hb) (fun hHeld => ?_)
  clear hK K
  refine norm_ (a' := ?_) ?_ ?_
  rotate_left
  ·show Act.put _ (some 3) _ = _
   simp only [Act.put, sit, scz, scs, i64_w, i32_w]
   rfl
  refine one_ (i := 2) (N := some 5) #[true, true, true, false, false] rfl rfl (by kernel_rfl) (by decide) (fun K hK => ?_)
  refine goes_ Try.func86 (by kernel_rfl) rfl #[.agg #[.int .i64 1, .int .i64 0], .agg #[.int .i64 x.f0, .int .i64 x.f1, .string x.f2]] (by rfl) rfl rfl (by (try simp only [mta, mco, mni]); first | done | rfl) ?_
  with_reducible refine (impl_OpOk.calls 2 1 0 x.f0 x.f1 x.f2 _ _ HV.out).mono ?_
  rintro e w2 ⟨rfl, hb⟩
  refine ⟨_, rfl, ?_⟩
  refine hK.out _ _ (HKP.out _ _ hHeld hb) (fun hHeld => ?_)
  clear hK K
  refine norm_ (a' := ?_) ?_ ?_
  rotate_left
  ·show Act.put _ (some 5) _ = _
   simp only [Act.put, sit, scz, scs, i64_w, i32_w]
   rfl
  refine pure_ (i := 3) (N := some 6) (v := ?_) (a' := ?_) #[true, true, true, true, false] rfl rfl (by kernel_rfl) (fun _ _ _ h => h) (Or.inl ⟨by rfl, ?_⟩) ?_ ?_
  rotate_left
  ·intro w'
   go_simp
   with_reducible rfl
  rotate_left
  ·simp only [Act.put, sit, scz, scs, i64_w, i32_w]
   rfl
  refine pure_ (i := 4) (N := some 2) (v := ?_) (a' := ?_) #[true, true, true, true, true] rfl rfl (by kernel_rfl) (fun _ _ _ h => h) (Or.inl ⟨by rfl, ?_⟩) ?_ ?_
  rotate_left
  ·intro w'
   go_simp
   with_reducible rfl
  rotate_left
  ·simp only [Act.put, sit, scz, scs, i64_w, i32_w]
   rfl
  refine done_ (by kernel_rfl) ?_
  go_wp2
  go_ret
  exact ⟨rfl, hHeld.2.2.2⟩
set_option maxHeartbeats 4000000 in
set_option maxRecDepth 100000 in
theorem impl_ApplyOps.calls (a0 : ByteArray) (a1 : Bool) (A2 : Option Addr) (c2 : Nat) (l2 : List S60) (r1 : ByteArray) (r2 : Bool) (w : World) (hr2 : Kd.C k60 w A2 l2.length l2) (hc2 : l2.length ≤ c2) (h : impl_ApplyOps.f a0 a1 l2 = some (r1, r2)) :
  Calls Try.prog 48 #[.string a0, .bool a1, .slice A2 l2.length c2] w fun e w' => e = .returned (.tuple #[.string r1, .bool r2]) ∧ Below w.heap.size w w' := by
 have hn : l2.length ≤ 9223372036854775807 := hr2.2.1
 unfold impl_ApplyOps.f at h
 by_cases g1 : l2.length ≤ 24
 ·by_cases g2 : a0.size ≤ 64
  ·rw [if_pos ⟨g1, g2⟩] at h
   have g1a : decide (24 < (l2.length : Int)) = false := decide_eq_false (by omega)
   have g1b : decide (24 < l2.length) = false := decide_eq_false (by omega)
   have g2a : decide (64 < (a0.size : Int)) = false := decide_eq_false (by omega)
   have g2b : decide (64 < a0.size) = false := decide_eq_false (by omega)
   clear g1 g2
   by_cases g3 : (l2.all fun x => (impl_OpOk.f 2 1 0 x.f0 x.f1 x.f2).isSome) = true
   ·rw [if_pos g3] at h
    have HK : Aside0 (Calls Try.prog 97 #[.slice A2 l2.length c2, .func (.func 98) #[] #[]] w fun e w' => e = .returned (.bool (l2.any fun x => !impl_ApplyOps.okB x)) ∧ Below w.heap.size w w') := ⟨impl_ApplyOps.contains (fun x => !impl_ApplyOps.okB x) A2 c2 l2 w hr2 (fun W x hb hx => by
     obtain ⟨v, hv⟩ := Option.isSome_iff_exists.1 (List.all_eq_true.1 g3 x hx)
     refine (impl_ApplyOps.pred x v W hv).mono fun e w' ⟨he, hw⟩ => ⟨?_, hb.trans (hw.mono hb.size)⟩
     rw [he]
     unfold impl_ApplyOps.okB
     rw [hv]
     rfl)⟩
    have HR0 := am hr2
    clear g3 hr2 hc2
    generalize (l2.any fun x => !impl_ApplyOps.okB x) = AN at HK h
    cases AN with
    | true =>
     rw [if_pos rfl] at h
     obtain ⟨rfl, rfl⟩ := Prod.mk.inj (Option.some.inj h)
     clear h
     go_enter Try.func48, Try.ntmps48
     go_wp2_with (go_at_call 97; refine HK.out.mono ?_; rintro e w' ⟨rfl, hb⟩; have HB := am hb; clear hb)
     go_ret2
     exact ⟨rfl, HB.out⟩
    | false =>
     rw [if_neg (by decide)] at h
     cases a1
     all_goals
      replace h := am h
      go_enter Try.func48, Try.ntmps48
      go_wp2_with (go_at_call 97; refine HK.out.mono ?_; rintro e w' ⟨rfl, hb⟩; have HB := am hb; clear hb)
      go_loopg [0, 1, 26] l2.length (fun gg s0 s1 s26 wr => ∃ (kk : Nat) (b : ByteArray) (t : Bool), kk ≤ l2.length ∧ l2.length - kk ≤ gg ∧ s26 = .int .i64 kk ∧ s0 = .string b ∧ s1 = .bool t ∧ Aside0 (Below w.heap.size w wr) ∧ Aside0 (impl_ApplyOps.l0 b t (l2.drop kk) = some (r1, r2)))
      case atStart => exact ⟨0, _, _, Nat.zero_le _, by omega, rfl, rfl, rfl, HB, ⟨h.out⟩⟩
      case round =>
       clear HB
       obtain ⟨kk, b, t, hkk, hg, rfl, rfl, rfl, HB, HL⟩ := hrel
       by_cases hlt : kk < l2.length
       ·have hltz : (kk : Int) < (l2.length : Int) := by omega
        obtain ⟨ad, e, hx0, hx1, hx2⟩ := at_T60 HR0.out (kk : Int) (by omega) hltz
        cases e
        rw [Int.toNat_natCast] at hx0 hx1 hx2
        replace hx0 := (HB.out.cell (blc w _ hx0)).trans hx0
        replace hx1 := (HB.out.cell (blc w _ hx1)).trans hx1
        replace hx2 := (HB.out.cell (blc w _ hx2)).trans hx2
        have HE : Aside0 (rd_T60 l2 (kk : Int) = l2[kk]) := ⟨by simp [rd_T60, List.getD_eq_getElem?_getD, List.getElem?_eq_getElem hlt]⟩
        have hl := HL.out
        rw [List.drop_eq_getElem_cons hlt, ← HE.out] at hl
        generalize rd_T60 l2 (kk : Int) = y at hx0 hx1 hx2 hl
        clear HE HL
        obtain ⟨⟨b', t'⟩, hq, hl2⟩ := Option.bind_eq_some_iff.1 hl
        have HQ := am hq
        have HL := am hl2
        clear hl hq hl2
        go_wp2_with (go_at_call 96; refine (impl_Op_apply.calls 2 y.f0 y.f1 y.f2 b t b' t' _ HQ.out).mono ?_; rintro e w' ⟨rfl, hb⟩; have HC := am hb; clear hb)
        have HB' := am (HB.out.alloc HB.out.size (.cells #[.int .i64 y.f0, .int .i64 y.f1, .string y.f2] 60))
        go_roundg (l2.length - (kk + 1))
        case measure => omega
        case rel => exact ⟨kk + 1, b', t', by omega, by omega, by go_num, rfl, rfl, ⟨HB'.out.trans (HC.out.mono HB'.out.size)⟩, HL⟩
       ·have hltz : ¬ (kk : Int) < (l2.length : Int) := by omega
        have hl := HL.out
        rw [List.drop_of_length_le (by omega)] at hl
        obtain ⟨rfl, rfl⟩ := Prod.mk.inj (Option.some.inj hl)
        clear hl HL
        go_wp2
        go_ret2
        exact ⟨rfl, HB.out⟩
   ·rw [if_neg g3] at h
    cases h
  ·rw [if_neg (by omega)] at h
   obtain ⟨rfl, rfl⟩ := Prod.mk.inj (Option.some.inj h)
   have g1a : decide (24 < (l2.length : Int)) = false := decide_eq_false (by omega)
   have g1b : decide (24 < l2.length) = false := decide_eq_false (by omega)
   have g2a : decide (64 < (a0.size : Int)) = true := decide_eq_true (by omega)
   have g2b : decide (64 < a0.size) = true := decide_eq_true (by omega)
   clear g1 g2 h hr2
   go_enter Try.func48, Try.ntmps48
   go_wp2
   go_ret2
   exact ⟨rfl, Below.refl _ _⟩
 ·rw [if_neg (by omega)] at h
  obtain ⟨rfl, rfl⟩ := Prod.mk.inj (Option.some.inj h)
  have g1a : decide (24 < (l2.length : Int)) = true := decide_eq_true (by omega)
  have g1b : decide (24 < l2.length) = true := decide_eq_true (by omega)
  clear g1 h hr2
  go_enter Try.func48, Try.ntmps48
  go_wp2
  go_ret2
  exact ⟨rfl, Below.refl _ _⟩

/-! ### laws_eqOp: function 42 -/
def laws_eqOp.f (a0_0 : Int) (a0_1 : Int) (a0_2 : ByteArray) (a1_0 : Int) (a1_1 : Int) (a1_2 : ByteArray) : Option (Bool) := if a0_0 = a1_0 then (if a0_1 = a1_1 then (if a0_2.toList = a1_2.toList then (some true) else (some false)) else (some false)) else (some false)
set_option maxHeartbeats 8000000 in
set_option maxRecDepth 100000 in
theorem laws_eqOp.calls (a0_0 : Int) (a0_1 : Int) (a0_2 : ByteArray) (a1_0 : Int) (a1_1 : Int) (a1_2 : ByteArray) (r : Bool) (w : World) (h : laws_eqOp.f a0_0 a0_1 a0_2 a1_0 a1_1 a1_2 = some r) :
  Calls Try.prog 42 #[.agg #[.int .i64 a0_0, .int .i64 a0_1, .string a0_2], .agg #[.int .i64 a1_0, .int .i64 a1_1, .string a1_2]] w fun e w' => e = .returned (.bool r) ∧ Below w.heap.size w w' := by
 have hu60 := Try.underlying60
 have HB := am (Below.refl w.heap.size w)
 have H : (if a0_0 = a1_0 then (if a0_1 = a1_1 then (if a0_2.toList = a1_2.toList then (some true) else (some false)) else (some false)) else (some false)) = some r := h
 clear h
 by_cases c3 : a0_0 = a1_0
 ·rw [if_pos c3] at H
  have c3b0 : (a0_0 == a1_0) = true := beq_iff_eq.mpr c3
  have c3b1 : (a0_0 != a1_0) = false := bne_eq_false_iff_eq.mpr c3
  clear c3
  by_cases c4 : a0_1 = a1_1
  ·rw [if_pos c4] at H
   have c4b0 : (a0_1 == a1_1) = true := beq_iff_eq.mpr c4
   have c4b1 : (a0_1 != a1_1) = false := bne_eq_false_iff_eq.mpr c4
   clear c4
   by_cases c5 : a0_2.toList = a1_2.toList
   ·rw [if_pos c5] at H
    have c5b0 : (a0_2.toList == a1_2.toList) = true := beq_iff_eq.mpr c5
    have c5b1 : (a0_2.toList != a1_2.toList) = false := bne_eq_false_iff_eq.mpr c5
    clear c5
    obtain rfl := Option.some.inj H
    go_enter Try.func42, Try.ntmps42
    go_wp2_with (first | ((with_reducible refine gate_dst (N := 2) rfl ?_); refine box_event ?hg (N := 2) ?hd (cs := #[.int .i64 a0_0, .int .i64 a0_1, .string a0_2]) (t := 60) ?hr ?_; (case hd => rfl); (case hg => rfl); (case hr => first | (go_simp; done) | (go_simp; rfl)); intro gb151 hg w6 hbox hb; have n0_ := am (below_step (by repeat (first | (with_reducible first | exact HB.out | apply bal | apply pdn | apply bd1) | exact HB.out)) hb); have n1_ := am (hbox); have n2_ := am ((by rw [hg]; exact (below_size (by repeat (first | (with_reducible first | exact HB.out | apply bal | apply pdn | apply bd1) | exact HB.out))) : w.heap.size ≤ gb151)); have n3_ := am ((by rw [hg]; exact (below_size (by repeat (first | (with_reducible first | exact HB.out | apply bal | apply pdn | apply bd1) | exact HB.out))) : w.heap.size ≤ gb151)); clear HB; have HB := n0_; have BK151 := n1_; have GW151 := n2_; have GE151 := n3_; clear n0_ n1_ n2_ n3_; clear hb hbox hg) | ((with_reducible refine gate_dst (N := 3) rfl ?_); refine box_event ?hg (N := 3) ?hd (cs := #[.int .i64 a1_0, .int .i64 a1_1, .string a1_2]) (t := 60) ?hr ?_; (case hd => rfl); (case hg => rfl); (case hr => first | (go_simp; done) | (go_simp; rfl)); intro gb152 hg w7 hbox hb; have n0_ := am (kbb (g := gb151) (o := .cells #[.int .i64 a0_0, .int .i64 a0_1, .string a0_2] 60 (0, 0)) (by (with_reducible repeat (first | apply kdn | apply kdr | apply kal)); exact BK151.out) hb); have n1_ := am (below_step (by repeat (first | (with_reducible first | exact HB.out | apply bal | apply pdn | apply bd1 | refine bst ?_ GE151.out) | exact HB.out)) hb); have n2_ := am (hbox); have n3_ := am ((by rw [hg]; exact (below_size (by repeat (first | (with_reducible first | exact HB.out | apply bal | apply pdn | apply bd1 | refine bst ?_ GE151.out) | exact HB.out))) : w.heap.size ≤ gb152)); have n4_ := am ((by rw [hg]; exact (below_size (by repeat (first | (with_reducible first | exact HB.out | apply bal | apply pdn | apply bd1 | refine bst ?_ GE151.out) | exact HB.out))) : w.heap.size ≤ gb152)); have n5_ := am ((by rw [hg]; exact Nat.ne_of_lt (blk_lt (g := gb151) (o := .cells #[.int .i64 a0_0, .int .i64 a0_1, .string a0_2] 60 (0, 0)) (by (with_reducible repeat (first | apply kdn | apply kdr | apply kal)); exact BK151.out)) : gb151 ≠ gb152)); have n6_ := am ((by rw [hg]; exact Nat.ne_of_gt (blk_lt (g := gb151) (o := .cells #[.int .i64 a0_0, .int .i64 a0_1, .string a0_2] 60 (0, 0)) (by (with_reducible repeat (first | apply kdn | apply kdr | apply kal)); exact BK151.out)) : gb152 ≠ gb151)); clear BK151; clear HB; have BK151 := n0_; have HB := n1_; have BK152 := n2_; have GW152 := n3_; have GE152 := n4_; have NB151_152 := n5_; have NB152_151 := n6_; clear n0_ n1_ n2_ n3_ n4_ n5_ n6_; clear hb hbox hg; have hnb8 := NB151_152.out; have hnc8 := NB152_151.out; have hcz9_0 : w7.cell? ⟨gb151, 0, none⟩ = some (.int .i64 a0_0) := (kce BK151.out 0).trans rfl; have hcz9_1 : w7.cell? ⟨gb151, 1, none⟩ = some (.int .i64 a0_1) := (kce BK151.out 1).trans rfl; have hcz9_2 : w7.cell? ⟨gb151, 2, none⟩ = some (.string a0_2) := (kce BK151.out 2).trans rfl; have hfz9_0 := kfr BK151.out 0; have hfz9_1 := kfr BK151.out 1; have hfz9_2 := kfr BK151.out 2; have hcz10_0 : w7.cell? ⟨gb152, 0, none⟩ = some (.int .i64 a1_0) := (kce BK152.out 0).trans rfl; have hcz10_1 : w7.cell? ⟨gb152, 1, none⟩ = some (.int .i64 a1_1) := (kce BK152.out 1).trans rfl; have hcz10_2 : w7.cell? ⟨gb152, 2, none⟩ = some (.string a1_2) := (kce BK152.out 2).trans rfl; have hfz10_0 := kfr BK152.out 0; have hfz10_1 := kfr BK152.out 1; have hfz10_2 := kfr BK152.out 2))
    go_ret
    exact ⟨by first | rfl | (simp [errW_none, errW_some] <;> rfl) | (simp [*, errW_none, errW_some] <;> rfl), by repeat (first | (with_reducible first | exact HB.out | apply bal | apply pdn | apply bd1 | refine bst ?_ GE151.out | refine bst ?_ GE152.out) | exact HB.out)⟩
   ·rw [if_neg c5] at H
    have c5b0 : (a0_2.toList == a1_2.toList) = false := beq_eq_false_iff_ne.mpr c5
    have c5b1 : (a0_2.toList != a1_2.toList) = true := bne_iff_ne.mpr c5
    obtain rfl := Option.some.inj H
    go_enter Try.func42, Try.ntmps42
    go_wp2_with (first | ((with_reducible refine gate_dst (N := 2) rfl ?_); refine box_event ?hg (N := 2) ?hd (cs := #[.int .i64 a0_0, .int .i64 a0_1, .string a0_2]) (t := 60) ?hr ?_; (case hd => rfl); (case hg => rfl); (case hr => first | (go_simp; done) | (go_simp; rfl)); intro gb151 hg w11 hbox hb; have n0_ := am (below_step (by repeat (first | (with_reducible first | exact HB.out | apply bal | apply pdn | apply bd1) | exact HB.out)) hb); have n1_ := am (hbox); have n2_ := am ((by rw [hg]; exact (below_size (by repeat (first | (with_reducible first | exact HB.out | apply bal | apply pdn | apply bd1) | exact HB.out))) : w.heap.size ≤ gb151)); have n3_ := am ((by rw [hg]; exact (below_size (by repeat (first | (with_reducible first | exact HB.out | apply bal | apply pdn | apply bd1) | exact HB.out))) : w.heap.size ≤ gb151)); clear HB; have HB := n0_; have BK151 := n1_; have GW151 := n2_; have GE151 := n3_; clear n0_ n1_ n2_ n3_; clear hb hbox hg) | ((with_reducible refine gate_dst (N := 3) rfl ?_); refine box_event ?hg (N := 3) ?hd (cs := #[.int .i64 a1_0, .int .i64 a1_1, .string a1_2]) (t := 60) ?hr ?_; (case hd => rfl); (case hg => rfl); (case hr => first | (go_simp; done) | (go_simp; rfl)); intro gb152 hg w12 hbox hb; have n0_ := am (kbb (g := gb151) (o := .cells #[.int .i64 a0_0, .int .i64 a0_1, .string a0_2] 60 (0, 0)) (by (with_reducible repeat (first | apply kdn | apply kdr | apply kal)); exact BK151.out) hb); have n1_ := am (below_step (by repeat (first | (with_reducible first | exact HB.out | apply bal | apply pdn | apply bd1 | refine bst ?_ GE151.out) | exact HB.out)) hb); have n2_ := am (hbox); have n3_ := am ((by rw [hg]; exact (below_size (by repeat (first | (with_reducible first | exact HB.out | apply bal | apply pdn | apply bd1 | refine bst ?_ GE151.out) | exact HB.out))) : w.heap.size ≤ gb152)); have n4_ := am ((by rw [hg]; exact (below_size (by repeat (first | (with_reducible first | exact HB.out | apply bal | apply pdn | apply bd1 | refine bst ?_ GE151.out) | exact HB.out))) : w.heap.size ≤ gb152)); have n5_ := am ((by rw [hg]; exact Nat.ne_of_lt (blk_lt (g := gb151) (o := .cells #[.int .i64 a0_0, .int .i64 a0_1, .string a0_2] 60 (0, 0)) (by (with_reducible repeat (first | apply kdn | apply kdr | apply kal)); exact BK151.out)) : gb151 ≠ gb152)); have n6_ := am ((by rw [hg]; exact Nat.ne_of_gt (blk_lt (g := gb151) (o := .cells #[.int .i64 a0_0, .int .i64 a0_1, .string a0_2] 60 (0, 0)) (by (with_reducible repeat (first | apply kdn | apply kdr | apply kal)); exact BK151.out)) : gb152 ≠ gb151)); clear BK151; clear HB; have BK151 := n0_; have HB := n1_; have BK152 := n2_; have GW152 := n3_; have GE152 := n4_; have NB151_152 := n5_; have NB152_151 := n6_; clear n0_ n1_ n2_ n3_ n4_ n5_ n6_; clear hb hbox hg; have hnb13 := NB151_152.out; have hnc13 := NB152_151.out; have hcz14_0 : w12.cell? ⟨gb151, 0, none⟩ = some (.int .i64 a0_0) := (kce BK151.out 0).trans rfl; have hcz14_1 : w12.cell? ⟨gb151, 1, none⟩ = some (.int .i64 a0_1) := (kce BK151.out 1).trans rfl; have hcz14_2 : w12.cell? ⟨gb151, 2, none⟩ = some (.string a0_2) := (kce BK151.out 2).trans rfl; have hfz14_0 := kfr BK151.out 0; have hfz14_1 := kfr BK151.out 1; have hfz14_2 := kfr BK151.out 2; have hcz15_0 : w12.cell? ⟨gb152, 0, none⟩ = some (.int .i64 a1_0) := (kce BK152.out 0).trans rfl; have hcz15_1 : w12.cell? ⟨gb152, 1, none⟩ = some (.int .i64 a1_1) := (kce BK152.out 1).trans rfl; have hcz15_2 : w12.cell? ⟨gb152, 2, none⟩ = some (.string a1_2) := (kce BK152.out 2).trans rfl; have hfz15_0 := kfr BK152.out 0; have hfz15_1 := kfr BK152.out 1; have hfz15_2 := kfr BK152.out 2))
    go_ret
    exact ⟨by first | rfl | (simp [errW_none, errW_some] <;> rfl) | (simp [*, errW_none, errW_some] <;> rfl), by repeat (first | (with_reducible first | exact HB.out | apply bal | apply pdn | apply bd1 | refine bst ?_ GE151.out | refine bst ?_ GE152.out) | exact HB.out)⟩
  ·rw [if_neg c4] at H
   have c4b0 : (a0_1 == a1_1) = false := beq_eq_false_iff_ne.mpr c4
   have c4b1 : (a0_1 != a1_1) = true := bne_iff_ne.mpr c4
   obtain rfl := Option.some.inj H
   go_enter Try.func42, Try.ntmps42
   go_wp2_with (first | ((with_reducible refine gate_dst (N := 2) rfl ?_); refine box_event ?hg (N := 2) ?hd (cs := #[.int .i64 a0_0, .int .i64 a0_1, .string a0_2]) (t := 60) ?hr ?_; (case hd => rfl); (case hg => rfl); (case hr => first | (go_simp; done) | (go_simp; rfl)); intro gb151 hg w16 hbox hb; have n0_ := am (below_step (by repeat (first | (with_reducible first | exact HB.out | apply bal | apply pdn | apply bd1) | exact HB.out)) hb); have n1_ := am (hbox); have n2_ := am ((by rw [hg]; exact (below_size (by repeat (first | (with_reducible first | exact HB.out | apply bal | apply pdn | apply bd1) | exact HB.out))) : w.heap.size ≤ gb151)); have n3_ := am ((by rw [hg]; exact (below_size (by repeat (first | (with_reducible first | exact HB.out | apply bal | apply pdn | apply bd1) | exact HB.out))) : w.heap.size ≤ gb151)); clear HB; have HB := n0_; have BK151 := n1_; have GW151 := n2_; have GE151 := n3_; clear n0_ n1_ n2_ n3_; clear hb hbox hg) | ((with_reducible refine gate_dst (N := 3) rfl ?_); refine box_event ?hg (N := 3) ?hd (cs := #[.int .i64 a1_0, .int .i64 a1_1, .string a1_2]) (t := 60) ?hr ?_; (case hd => rfl); (case hg => rfl); (case hr => first | (go_simp; done) | (go_simp; rfl)); intro gb152 hg w17 hbox hb; have n0_ := am (kbb (g := gb151) (o := .cells #[.int .i64 a0_0, .int .i64 a0_1, .string a0_2] 60 (0, 0)) (by (with_reducible repeat (first | apply kdn | apply kdr | apply kal)); exact BK151.out) hb); have n1_ := am (below_step (by repeat (first | (with_reducible first | exact HB.out | apply bal | apply pdn | apply bd1 | refine bst ?_ GE151.out) | exact HB.out)) hb); have n2_ := am (hbox); have n3_ := am ((by rw [hg]; exact (below_size (by repeat (first | (with_reducible first | exact HB.out | apply bal | apply pdn | apply bd1 | refine bst ?_ GE151.out) | exact HB.out))) : w.heap.size ≤ gb152)); have n4_ := am ((by rw [hg]; exact (below_size (by repeat (first | (with_reducible first | exact HB.out | apply bal | apply pdn | apply bd1 | refine bst ?_ GE151.out) | exact HB.out))) : w.heap.size ≤ gb152)); have n5_ := am ((by rw [hg]; exact Nat.ne_of_lt (blk_lt (g := gb151) (o := .cells #[.int .i64 a0_0, .int .i64 a0_1, .string a0_2] 60 (0, 0)) (by (with_reducible repeat (first | apply kdn | apply kdr | apply kal)); exact BK151.out)) : gb151 ≠ gb152)); have n6_ := am ((by rw [hg]; exact Nat.ne_of_gt (blk_lt (g := gb151) (o := .cells #[.int .i64 a0_0, .int .i64 a0_1, .string a0_2] 60 (0, 0)) (by (with_reducible repeat (first | apply kdn | apply kdr | apply kal)); exact BK151.out)) : gb152 ≠ gb151)); clear BK151; clear HB; have BK151 := n0_; have HB := n1_; have BK152 := n2_; have GW152 := n3_; have GE152 := n4_; have NB151_152 := n5_; have NB152_151 := n6_; clear n0_ n1_ n2_ n3_ n4_ n5_ n6_; clear hb hbox hg; have hnb18 := NB151_152.out; have hnc18 := NB152_151.out; have hcz19_0 : w17.cell? ⟨gb151, 0, none⟩ = some (.int .i64 a0_0) := (kce BK151.out 0).trans rfl; have hcz19_1 : w17.cell? ⟨gb151, 1, none⟩ = some (.int .i64 a0_1) := (kce BK151.out 1).trans rfl; have hcz19_2 : w17.cell? ⟨gb151, 2, none⟩ = some (.string a0_2) := (kce BK151.out 2).trans rfl; have hfz19_0 := kfr BK151.out 0; have hfz19_1 := kfr BK151.out 1; have hfz19_2 := kfr BK151.out 2; have hcz20_0 : w17.cell? ⟨gb152, 0, none⟩ = some (.int .i64 a1_0) := (kce BK152.out 0).trans rfl; have hcz20_1 : w17.cell? ⟨gb152, 1, none⟩ = some (.int .i64 a1_1) := (kce BK152.out 1).trans rfl; have hcz20_2 : w17.cell? ⟨gb152, 2, none⟩ = some (.string a1_2) := (kce BK152.out 2).trans rfl; have hfz20_0 := kfr BK152.out 0; have hfz20_1 := kfr BK152.out 1; have hfz20_2 := kfr BK152.out 2))
   go_ret
   exact ⟨by first | rfl | (simp [errW_none, errW_some] <;> rfl) | (simp [*, errW_none, errW_some] <;> rfl), by repeat (first | (with_reducible first | exact HB.out | apply bal | apply pdn | apply bd1 | refine bst ?_ GE151.out | refine bst ?_ GE152.out) | exact HB.out)⟩
 ·rw [if_neg c3] at H
  have c3b0 : (a0_0 == a1_0) = false := beq_eq_false_iff_ne.mpr c3
  have c3b1 : (a0_0 != a1_0) = true := bne_iff_ne.mpr c3
  obtain rfl := Option.some.inj H
  go_enter Try.func42, Try.ntmps42
  go_wp2_with (first | ((with_reducible refine gate_dst (N := 2) rfl ?_); refine box_event ?hg (N := 2) ?hd (cs := #[.int .i64 a0_0, .int .i64 a0_1, .string a0_2]) (t := 60) ?hr ?_; (case hd => rfl); (case hg => rfl); (case hr => first | (go_simp; done) | (go_simp; rfl)); intro gb151 hg w21 hbox hb; have n0_ := am (below_step (by repeat (first | (with_reducible first | exact HB.out | apply bal | apply pdn | apply bd1) | exact HB.out)) hb); have n1_ := am (hbox); have n2_ := am ((by rw [hg]; exact (below_size (by repeat (first | (with_reducible first | exact HB.out | apply bal | apply pdn | apply bd1) | exact HB.out))) : w.heap.size ≤ gb151)); have n3_ := am ((by rw [hg]; exact (below_size (by repeat (first | (with_reducible first | exact HB.out | apply bal | apply pdn | apply bd1) | exact HB.out))) : w.heap.size ≤ gb151)); clear HB; have HB := n0_; have BK151 := n1_; have GW151 := n2_; have GE151 := n3_; clear n0_ n1_ n2_ n3_; clear hb hbox hg) | ((with_reducible refine gate_dst (N := 3) rfl ?_); refine box_event ?hg (N := 3) ?hd (cs := #[.int .i64 a1_0, .int .i64 a1_1, .string a1_2]) (t := 60) ?hr ?_; (case hd => rfl); (case hg => rfl); (case hr => first | (go_simp; done) | (go_simp; rfl)); intro gb152 hg w22 hbox hb; have n0_ := am (kbb (g := gb151) (o := .cells #[.int .i64 a0_0, .int .i64 a0_1, .string a0_2] 60 (0, 0)) (by (with_reducible repeat (first | apply kdn | apply kdr | apply kal)); exact BK151.out) hb); have n1_ := am (below_step (by repeat (first | (with_reducible first | exact HB.out | apply bal | apply pdn | apply bd1 | refine bst ?_ GE151.out) | exact HB.out)) hb); have n2_ := am (hbox); have n3_ := am ((by rw [hg]; exact (below_size (by repeat (first | (with_reducible first | exact HB.out | apply bal | apply pdn | apply bd1 | refine bst ?_ GE151.out) | exact HB.out))) : w.heap.size ≤ gb152)); have n4_ := am ((by rw [hg]; exact (below_size (by repeat (first | (with_reducible first | exact HB.out | apply bal | apply pdn | apply bd1 | refine bst ?_ GE151.out) | exact HB.out))) : w.heap.size ≤ gb152)); have n5_ := am ((by rw [hg]; exact Nat.ne_of_lt (blk_lt (g := gb151) (o := .cells #[.int .i64 a0_0, .int .i64 a0_1, .string a0_2] 60 (0, 0)) (by (with_reducible repeat (first | apply kdn | apply kdr | apply kal)); exact BK151.out)) : gb151 ≠ gb152)); have n6_ := am ((by rw [hg]; exact Nat.ne_of_gt (blk_lt (g := gb151) (o := .cells #[.int .i64 a0_0, .int .i64 a0_1, .string a0_2] 60 (0, 0)) (by (with_reducible repeat (first | apply kdn | apply kdr | apply kal)); exact BK151.out)) : gb152 ≠ gb151)); clear BK151; clear HB; have BK151 := n0_; have HB := n1_; have BK152 := n2_; have GW152 := n3_; have GE152 := n4_; have NB151_152 := n5_; have NB152_151 := n6_; clear n0_ n1_ n2_ n3_ n4_ n5_ n6_; clear hb hbox hg; have hnb23 := NB151_152.out; have hnc23 := NB152_151.out; have hcz24_0 : w22.cell? ⟨gb151, 0, none⟩ = some (.int .i64 a0_0) := (kce BK151.out 0).trans rfl; have hcz24_1 : w22.cell? ⟨gb151, 1, none⟩ = some (.int .i64 a0_1) := (kce BK151.out 1).trans rfl; have hcz24_2 : w22.cell? ⟨gb151, 2, none⟩ = some (.string a0_2) := (kce BK151.out 2).trans rfl; have hfz24_0 := kfr BK151.out 0; have hfz24_1 := kfr BK151.out 1; have hfz24_2 := kfr BK151.out 2; have hcz25_0 : w22.cell? ⟨gb152, 0, none⟩ = some (.int .i64 a1_0) := (kce BK152.out 0).trans rfl; have hcz25_1 : w22.cell? ⟨gb152, 1, none⟩ = some (.int .i64 a1_1) := (kce BK152.out 1).trans rfl; have hcz25_2 : w22.cell? ⟨gb152, 2, none⟩ = some (.string a1_2) := (kce BK152.out 2).trans rfl; have hfz25_0 := kfr BK152.out 0; have hfz25_1 := kfr BK152.out 1; have hfz25_2 := kfr BK152.out 2))
  go_ret
  exact ⟨by first | rfl | (simp [errW_none, errW_some] <;> rfl) | (simp [*, errW_none, errW_some] <;> rfl), by repeat (first | (with_reducible first | exact HB.out | apply bal | apply pdn | apply bd1 | refine bst ?_ GE151.out | refine bst ?_ GE152.out) | exact HB.out)⟩

/-! ### laws_eqOpS: function 49 -/
def laws_eqOpS.l0 : Nat → List (S60) → List (S60) → Int → Option (Bool)
 | 0, _, _, _ => none
 | k + 1, x0, x1, x5 => if x5 < (x0.length : Int) then (if 0 ≤ x5 then (if x5 < (x1.length : Int) then ((laws_eqOp.f ((rd_T60 x0 x5).f0) ((rd_T60 x0 x5).f1) ((rd_T60 x0 x5).f2) ((rd_T60 x1 x5).f0) ((rd_T60 x1 x5).f1) ((rd_T60 x1 x5).f2)).bind fun t155 => (if t155 = true then (laws_eqOpS.l0 k x0 x1 (wrap64 (x5 + 1))) else (some false))) else (none)) else (none)) else (some true)
def laws_eqOpS.f (k : Nat) (l0 : List (S60)) (l1 : List (S60)) : Option (Bool) := if (l0.length : Int) = (l1.length : Int) then (laws_eqOpS.l0 k l0 l1 0) else (some false)
theorem laws_eqOpS.mono_l : ∀ k, (∀ y0 y1 y2, LeO (laws_eqOpS.l0 k y0 y1 y2) (laws_eqOpS.l0 (k + 1) y0 y1 y2))
 | 0 => fun _ _ _ r h => by simp [laws_eqOpS.l0] at h
 | k + 1 => by
  have ih0 := laws_eqOpS.mono_l k
  ·intro y0 y1 y2
   unfold laws_eqOpS.l0
   repeat' first
   | (with_reducible exact ih0 _ _ _)
   | (with_reducible exact LeO.refl _)
   | (with_reducible exact LeO.none _)
   | (with_reducible refine LeO.ite ?_ ?_)
   | (with_reducible refine LeO.bind ?_ (fun _ => ?_))
   | exact ih0 _ _ _
   | exact LeO.none _
   | refine LeO.ite ?_ ?_
   | refine LeO.bind ?_ (fun _ => ?_)
theorem laws_eqOpS.mono : ∀ a0 a1 k, LeO (laws_eqOpS.f k a0 a1) (laws_eqOpS.f (k + 1) a0 a1) := by
 intro a0 a1 k
 have ih0 := laws_eqOpS.mono_l k
 unfold laws_eqOpS.f
 repeat' first
   | (with_reducible exact ih0 _ _ _)
   | (with_reducible exact LeO.refl _)
   | (with_reducible exact LeO.none _)
   | (with_reducible refine LeO.ite ?_ ?_)
   | (with_reducible refine LeO.bind ?_ (fun _ => ?_))
   | exact ih0 _ _ _
   | exact LeO.none _
   | refine LeO.ite ?_ ?_
   | refine LeO.bind ?_ (fun _ => ?_)
def laws_eqOpS.T6 : Bool × List (List Nat × List Nat) := (true, [([], []), ([], []), ([0, 1], [0, 1]), ([2], [2]), ([], []), ([], []), ([4, 5], [4, 5]), ([6], [6]), ([3, 7], [3, 7]), ([8], [8])])
def laws_eqOpS.B6 : List Nat := [0, 0, 3, 7, 0, 0, 48, 112, 255, 511]
theorem laws_eqOpS.tab6 : rtab .any (opsOf Try.f49 6) = laws_eqOpS.T6 := by kernel_rfl
theorem laws_eqOpS.bits6 : waitsOk laws_eqOpS.T6.2 laws_eqOpS.B6 = true := by kernel_rfl
set_option maxHeartbeats 8000000 in
set_option maxRecDepth 100000 in
theorem laws_eqOpS.calls (k : Nat) (A0 : Option Addr) (c0 : Nat) (l0 : List (S60)) (A1 : Option Addr) (c1 : Nat) (l1 : List (S60)) (r : Bool) (w : World) (hr0 : Kd.C k60 w A0 l0.length l0) (hc0 : l0.length ≤ c0) (hr1 : Kd.C k60 w A1 l1.length l1) (hc1 : l1.length ≤ c1) (h : laws_eqOpS.f k l0 l1 = some r) :
  Calls Try.prog 49 #[.slice A0 l0.length c0, .slice A1 l1.length c1] w fun e w' => e = .returned (.bool r) ∧ Below w.heap.size w w' := by
 have hu60 := Try.underlying60
 have HR0 := am hr0
 have HC0 := am hc0
 clear hr0 hc0
 have HR1 := am hr1
 have HC1 := am hc1
 clear hr1 hc1
 have HB := am (Below.refl w.heap.size w)
 have H : (if (l0.length : Int) = (l1.length : Int) then (laws_eqOpS.l0 k l0 l1 0) else (some false)) = some r := h
 clear h
 by_cases c3 : (l0.length : Int) = (l1.length : Int)
 ·rw [if_pos c3] at H
  have c3b0 : ((l0.length : Int) == (l1.length : Int)) = true := beq_iff_eq.mpr c3
  have c3b1 : ((l0.length : Int) != (l1.length : Int)) = false := bne_eq_false_iff_eq.mpr c3
  have c3b2 : (l0.length == l1.length) = true := by first | simpa using c3 | (simp at c3 ⊢; omega)
  clear c3
  have H' := am H
  clear H
  go_enter Try.func49, Try.ntmps49
  go_wp2
  go_loopg [5] k (fun kq v5 w' => ∃ (x5_1 : Int), v5 = .int .i64 x5_1 ∧ Aside0 (laws_eqOpS.l0 kq l0 l1 x5_1 = some r) ∧ Aside0 (kq ≤ k) ∧ Aside0 (Below w.heap.size w w'))
  case atStart => exact ⟨(0), (by first | rfl | (simp; done) | (simp [*]; done)), H', ⟨Nat.le_refl _⟩, ⟨by repeat (first | (with_reducible first | exact HB.out | apply bal | apply pdn | apply bd1) | exact HB.out)⟩⟩
  case round =>
   clear H'
   obtain ⟨x5_1, rfl, HA, HK1, HB⟩ := hrel
   cases gk with
   | zero => exact absurd HA.out (by simp [laws_eqOpS.l0])
   | succ k1 =>
    have H := HA.out
    clear HA
    simp only [laws_eqOpS.l0] at H
    by_cases c4 : x5_1 < (l0.length : Int)
    ·rw [if_pos c4] at H
     have c4b0 : decide (x5_1 < (l0.length : Int)) = true := decide_eq_true c4
     clear c4
     by_cases c5 : 0 ≤ x5_1
     ·rw [if_pos c5] at H
      have c5b0 : decide (0 ≤ x5_1) = true := decide_eq_true c5
      clear c5
      by_cases c6 : x5_1 < (l1.length : Int)
      ·rw [if_pos c6] at H
       have c6b0 : decide (x5_1 < (l1.length : Int)) = true := decide_eq_true c6
       clear c6
       replace H := Option.bind_eq_some_iff.mp H
       obtain ⟨t155, A70, H⟩ := H
       replace H : (if t155 = true then (laws_eqOpS.l0 k1 l0 l1 (wrap64 (x5_1 + 1))) else (some false)) = some r := H
       have A7 := am A70
       clear A70
       by_cases c8 : t155 = true
       ·subst c8
        have H1 : (laws_eqOpS.l0 k1 l0 l1 (wrap64 (x5_1 + 1))) = some r := by rw [if_pos rfl] at H; exact H
        clear H
        have H := H1
        clear H1
        have H' := am H
        clear H
        try go_wp2
        have n0_ := am (bd1 HB.out)
        clear HB
        have HB := n0_
        clear n0_
        have p153 : 0 ≤ (x5_1 : Int) := of_decide_eq_true (by first | (with_reducible assumption) | assumption)
        have q153 : x5_1 < (l0.length : Int) := of_decide_eq_true (by first | (with_reducible assumption) | assumption)
        obtain ⟨ad153, e153, hx153_0, hx153_1, hx153_2⟩ := at_T60 HR0.out x5_1 p153 q153
        have hw153_2 := hx153_2
        have hw153_1 := hx153_1
        have hw153_0 := hx153_0
        cases e153
        replace hx153_0 := (HB.out.cell (blc w _ hx153_0)).trans hx153_0
        replace hx153_1 := (HB.out.cell (blc w _ hx153_1)).trans hx153_1
        replace hx153_2 := (HB.out.cell (blc w _ hx153_2)).trans hx153_2
        replace p153 := eq_true p153
        replace q153 := eq_true q153
        have p154 : 0 ≤ (x5_1 : Int) := of_decide_eq_true (by first | (with_reducible assumption) | assumption)
        have q154 : x5_1 < (l1.length : Int) := of_decide_eq_true (by first | (with_reducible assumption) | assumption)
        obtain ⟨ad154, e154, hx154_0, hx154_1, hx154_2⟩ := at_T60 HR1.out x5_1 p154 q154
        have hw154_2 := hx154_2
        have hw154_1 := hx154_1
        have hw154_0 := hx154_0
        cases e154
        replace hx154_0 := (HB.out.cell (blc w _ hx154_0)).trans hx154_0
        replace hx154_1 := (HB.out.cell (blc w _ hx154_1)).trans hx154_1
        replace hx154_2 := (HB.out.cell (blc w _ hx154_2)).trans hx154_2
        replace p154 := eq_true p154
        replace q154 := eq_true q154
        refine start_ (n := 10) (S := fun w' => w'.cell? (ad153.add ((x5_1).toNat * 3)) = some (.int .i64 ((rd_T60 l0 x5_1).f0)) ∧ w'.cell? ⟨(ad153.add ((x5_1).toNat * 3)).block, (ad153.add ((x5_1).toNat * 3)).off + 1, none⟩ = some (.int .i64 ((rd_T60 l0 x5_1).f1)) ∧ w'.cell? ⟨(ad153.add ((x5_1).toNat * 3)).block, (ad153.add ((x5_1).toNat * 3)).off + 2, none⟩ = some (.string ((rd_T60 l0 x5_1).f2)) ∧ w'.cell? (ad154.add ((x5_1).toNat * 3)) = some (.int .i64 ((rd_T60 l1 x5_1).f0)) ∧ w'.cell? ⟨(ad154.add ((x5_1).toNat * 3)).block, (ad154.add ((x5_1).toNat * 3)).off + 1, none⟩ = some (.int .i64 ((rd_T60 l1 x5_1).f1)) ∧ w'.cell? ⟨(ad154.add ((x5_1).toNat * 3)).block, (ad154.add ((x5_1).toNat * 3)).off + 2, none⟩ = some (.string ((rd_T60 l1 x5_1).f2))) (ds := []) #[false, false, false, false, false, false, false, false, false, false] (by kernel_rfl) rfl rfl ⟨((HB.out.cell (blc w _ hw153_0)).trans hw153_0), ((HB.out.cell (blc w _ hw153_1)).trans hw153_1), ((HB.out.cell (blc w _ hw153_2)).trans hw153_2), ((HB.out.cell (blc w _ hw154_0)).trans hw154_0), ((HB.out.cell (blc w _ hw154_1)).trans hw154_1), ((HB.out.cell (blc w _ hw154_2)).trans hw154_2)⟩ (fun hHeld => ?_); refine with_tabW laws_eqOpS.tab6 laws_eqOpS.bits6 (fun HT_ HW_ => ?_)
        generalize wr.drew = w9 at HB hx153_0 hx153_1 hx153_2 hx154_0 hx154_1 hx154_2 hHeld ⊢
        refine pure_ (i := 0) (N := some 17) (v := ?_) (a' := ?_) #[true, false, false, false, false, false, false, false, false, false] rfl rfl (any_of HT_.out (by kernel_rfl)) (fun _ _ _ h => h) (Or.inl ⟨by rfl, ?_⟩) ?_ ?_
        rotate_left
        ·intro w'
         go_simp
         with_reducible rfl
        rotate_left
        ·simp only [Act.put, sit, scz, scs, i64_w, i32_w]
         rfl
        refine pure_ (i := 1) (N := some 18) (v := ?_) (a' := ?_) #[true, true, false, false, false, false, false, false, false, false] rfl rfl (any_of HT_.out (by kernel_rfl)) (fun _ _ _ h => h) (Or.inl ⟨by rfl, ?_⟩) ?_ ?_
        rotate_left
        ·intro w'
         go_simp
         with_reducible rfl
        rotate_left
        ·simp only [Act.put, sit, scz, scs, i64_w, i32_w]
         rfl
        refine pure_ (i := 2) (N := some 19) (v := ?_) (a' := ?_) #[true, true, true, false, false, false, false, false, false, false] rfl rfl (any_of HT_.out (by kernel_rfl)) (fun _ _ _ h => h) (Or.inl ⟨by rfl, ?_⟩) ?_ ?_
        rotate_left
        ·intro w'
         go_simp
         with_reducible rfl
        rotate_left
        ·simp only [Act.put, sit, scz, scs, i64_w, i32_w]
         rfl
        refine pure_ (i := 4) (N := some 21) (v := ?_) (a' := ?_) #[true, true, true, false, true, false, false, false, false, false] rfl rfl (any_of HT_.out (by kernel_rfl)) (fun _ _ _ h => h) (Or.inl ⟨by rfl, ?_⟩) ?_ ?_
        rotate_left
        ·intro w'
         go_simp
         with_reducible rfl
        rotate_left
        ·simp only [Act.put, sit, scz, scs, i64_w, i32_w]
         rfl
        refine pure_ (i := 5) (N := some 22) (v := ?_) (a' := ?_) #[true, true, true, false, true, true, false, false, false, false] rfl rfl (any_of HT_.out (by kernel_rfl)) (fun _ _ _ h => h) (Or.inl ⟨by rfl, ?_⟩) ?_ ?_
        rotate_left
        ·intro w'
         go_simp
         with_reducible rfl
        rotate_left
        ·simp only [Act.put, sit, scz, scs, i64_w, i32_w]
         rfl
        refine pure_ (i := 6) (N := some 23) (v := ?_) (a' := ?_) #[true, true, true, false, true, true, true, false, false, false] rfl rfl (any_of HT_.out (by kernel_rfl)) (fun _ _ _ h => h) (Or.inl ⟨by rfl, ?_⟩) ?_ ?_
        rotate_left
        ·intro w'
         go_simp
         with_reducible rfl
        rotate_left
        ·simp only [Act.put, sit, scz, scs, i64_w, i32_w]
         rfl
        refine take_ (i := 3) (N := some 20) (v := ?_) (a' := ?_) #[true, true, true, true, true, true, true, false, false, false] rfl rfl (take_ofW HT_.out HW_.out (by kernel_rfl)) (fun _ _ _ h => h) (Or.inl ⟨by rfl, ?_⟩) hHeld ?_ ?_
        rotate_left
        ·rintro w' ⟨s0, s1, s2, s3, s4, s5⟩
         go_simp
         with_reducible rfl
        rotate_left
        ·simp only [Act.put, sit, scz, scs, i64_w, i32_w]
         rfl
        refine take_ (i := 7) (N := some 24) (v := ?_) (a' := ?_) #[true, true, true, true, true, true, true, true, false, false] rfl rfl (take_ofW HT_.out HW_.out (by kernel_rfl)) (fun _ _ _ h => h) (Or.inl ⟨by rfl, ?_⟩) hHeld ?_ ?_
        rotate_left
        ·rintro w' ⟨s0, s1, s2, s3, s4, s5⟩
         go_simp
         with_reducible rfl
        rotate_left
        ·simp only [Act.put, sit, scz, scs, i64_w, i32_w]
         rfl
        refine one_ (i := 8) (N := some 25) #[true, true, true, true, true, true, true, true, true, false] rfl rfl (one_of HT_.out (by kernel_rfl)) (by decide) (fun K hK => ?_)
        refine goes_ Try.func42 (by kernel_rfl) rfl #[.agg #[.int .i64 ((rd_T60 l0 x5_1).f0), .int .i64 ((rd_T60 l0 x5_1).f1), .string ((rd_T60 l0 x5_1).f2)], .agg #[.int .i64 ((rd_T60 l1 x5_1).f0), .int .i64 ((rd_T60 l1 x5_1).f1), .string ((rd_T60 l1 x5_1).f2)]] (by rfl) rfl rfl (by (try simp only [mta, mco, mni]); first | done | rfl | (simp only [lnd, lnt]; rfl)) ?_
        with_reducible refine (laws_eqOp.calls ((rd_T60 l0 x5_1).f0) ((rd_T60 l0 x5_1).f1) ((rd_T60 l0 x5_1).f2) ((rd_T60 l1 x5_1).f0) ((rd_T60 l1 x5_1).f1) ((rd_T60 l1 x5_1).f2) true _ A7.out).mono ?_
        rintro e w10 ⟨rfl, hb⟩
        refine ⟨_, rfl, ?_⟩
        have n0_ := am (below_step (by repeat (first | (with_reducible first | exact HB.out | apply bal | apply pdn | apply bd1) | exact HB.out)) hb)
        clear HB
        have HB := n0_
        clear n0_
        refine hK.out _ _ ⟨((HB.out.cell (blc w _ hw153_0)).trans hw153_0), ((HB.out.cell (blc w _ hw153_1)).trans hw153_1), ((HB.out.cell (blc w _ hw153_2)).trans hw153_2), ((HB.out.cell (blc w _ hw154_0)).trans hw154_0), ((HB.out.cell (blc w _ hw154_1)).trans hw154_1), ((HB.out.cell (blc w _ hw154_2)).trans hw154_2)⟩ (fun hHeld => ?_)
        clear hK K
        refine norm_ (a' := ?_) ?_ ?_
        rotate_left
        ·show Act.put _ (some 25) _ = _
         simp only [Act.put, sit, scz, scs, i64_w, i32_w]
         rfl
        refine pure_ (i := 9) (N := some 26) (v := ?_) (a' := ?_) #[true, true, true, true, true, true, true, true, true, true] rfl rfl (any_of HT_.out (by kernel_rfl)) (fun _ _ _ h => h) (Or.inl ⟨by rfl, ?_⟩) ?_ ?_
        rotate_left
        ·intro w'
         go_simp
         with_reducible rfl
        rotate_left
        ·simp only [Act.put, sit, scz, scs, i64_w, i32_w]
         rfl
        refine done_ (done_of HT_.out (by kernel_rfl)) ?_
        try go_wp2
        go_roundg k1
        case measure => have := HK1.out; omega
        case rel => exact ⟨(wrap64 (x5_1 + 1)), (by first | rfl | (simp; done) | (simp [*]; done)), H', ⟨by have := HK1.out; omega⟩, ⟨by repeat (first | (with_reducible first | exact HB.out | apply bal | apply pdn | apply bd1) | exact HB.out)⟩⟩
       ·replace c8 := Bool.eq_false_iff.mpr c8
        subst c8
        have H1 : (some false) = some r := by rw [if_neg (show ¬ (false = true) by decide)] at H; exact H
        clear H
        have H := H1
        clear H1
        obtain rfl := Option.some.inj H
        try go_wp2
        have n0_ := am (bd1 HB.out)
        clear HB
        have HB := n0_
        clear n0_
        have p153 : 0 ≤ (x5_1 : Int) := of_decide_eq_true (by first | (with_reducible assumption) | assumption)
        have q153 : x5_1 < (l0.length : Int) := of_decide_eq_true (by first | (with_reducible assumption) | assumption)
        obtain ⟨ad153, e153, hx153_0, hx153_1, hx153_2⟩ := at_T60 HR0.out x5_1 p153 q153
        have hw153_2 := hx153_2
        have hw153_1 := hx153_1
        have hw153_0 := hx153_0
        cases e153
        replace hx153_0 := (HB.out.cell (blc w _ hx153_0)).trans hx153_0
        replace hx153_1 := (HB.out.cell (blc w _ hx153_1)).trans hx153_1
        replace hx153_2 := (HB.out.cell (blc w _ hx153_2)).trans hx153_2
        replace p153 := eq_true p153
        replace q153 := eq_true q153
        have p154 : 0 ≤ (x5_1 : Int) := of_decide_eq_true (by first | (with_reducible assumption) | assumption)
        have q154 : x5_1 < (l1.length : Int) := of_decide_eq_true (by first | (with_reducible assumption) | assumption)
        obtain ⟨ad154, e154, hx154_0, hx154_1, hx154_2⟩ := at_T60 HR1.out x5_1 p154 q154
        have hw154_2 := hx154_2
        have hw154_1 := hx154_1
        have hw154_0 := hx154_0
        cases e154
        replace hx154_0 := (HB.out.cell (blc w _ hx154_0)).trans hx154_0
        replace hx154_1 := (HB.out.cell (blc w _ hx154_1)).trans hx154_1
        replace hx154_2 := (HB.out.cell (blc w _ hx154_2)).trans hx154_2
        replace p154 := eq_true p154
        replace q154 := eq_true q154
        refine start_ (n := 10) (S := fun w' => w'.cell? (ad153.add ((x5_1).toNat * 3)) = some (.int .i64 ((rd_T60 l0 x5_1).f0)) ∧ w'.cell? ⟨(ad153.add ((x5_1).toNat * 3)).block, (ad153.add ((x5_1).toNat * 3)).off + 1, none⟩ = some (.int .i64 ((rd_T60 l0 x5_1).f1)) ∧ w'.cell? ⟨(ad153.add ((x5_1).toNat * 3)).block, (ad153.add ((x5_1).toNat * 3)).off + 2, none⟩ = some (.string ((rd_T60 l0 x5_1).f2)) ∧ w'.cell? (ad154.add ((x5_1).toNat * 3)) = some (.int .i64 ((rd_T60 l1 x5_1).f0)) ∧ w'.cell? ⟨(ad154.add ((x5_1).toNat * 3)).block, (ad154.add ((x5_1).toNat * 3)).off + 1, none⟩ = some (.int .i64 ((rd_T60 l1 x5_1).f1)) ∧ w'.cell? ⟨(ad154.add ((x5_1).toNat * 3)).block, (ad154.add ((x5_1).toNat * 3)).off + 2, none⟩ = some (.string ((rd_T60 l1 x5_1).f2))) (ds := []) #[false, false, false, false, false, false, false, false, false, false] (by kernel_rfl) rfl rfl ⟨((HB.out.cell (blc w _ hw153_0)).trans hw153_0), ((HB.out.cell (blc w _ hw153_1)).trans hw153_1), ((HB.out.cell (blc w _ hw153_2)).trans hw153_2), ((HB.out.cell (blc w _ hw154_0)).trans hw154_0), ((HB.out.cell (blc w _ hw154_1)).trans hw154_1), ((HB.out.cell (blc w _ hw154_2)).trans hw154_2)⟩ (fun hHeld => ?_); refine with_tabW laws_eqOpS.tab6 laws_eqOpS.bits6 (fun HT_ HW_ => ?_)
        generalize wr.drew = w11 at HB hx153_0 hx153_1 hx153_2 hx154_0 hx154_1 hx154_2 hHeld ⊢
        refine pure_ (i := 0) (N := some 17) (v := ?_) (a' := ?_) #[true, false, false, false, false, false, false, false, false, false] rfl rfl (any_of HT_.out (by kernel_rfl)) (fun _ _ _ h => h) (Or.inl ⟨by rfl, ?_⟩) ?_ ?_
        rotate_left
        ·intro w'
         go_simp
         with_reducible rfl
        rotate_left
        ·simp only [Act.put, sit, scz, scs, i64_w, i32_w]
         rfl
        refine pure_ (i := 1) (N := some 18) (v := ?_) (a' := ?_) #[true, true, false, false, false, false, false, false, false, false] rfl rfl (any_of HT_.out (by kernel_rfl)) (fun _ _ _ h => h) (Or.inl ⟨by rfl, ?_⟩) ?_ ?_
        rotate_left
        ·intro w'
         go_simp
         with_reducible rfl
        rotate_left
        ·simp only [Act.put, sit, scz, scs, i64_w, i32_w]
         rfl
        refine pure_ (i := 2) (N := some 19) (v := ?_) (a' := ?_) #[true, true, true, false, false, false, false, false, false, false] rfl rfl (any_of HT_.out (by kernel_rfl)) (fun _ _ _ h => h) (Or.inl ⟨by rfl, ?_⟩) ?_ ?_
        rotate_left
        ·intro w'
         go_simp
         with_reducible rfl
        rotate_left
        ·simp only [Act.put, sit, scz, scs, i64_w, i32_w]
         rfl
        refine pure_ (i := 4) (N := some 21) (v := ?_) (a' := ?_) #[true, true, true, false, true, false, false, false, false, false] rfl rfl (any_of HT_.out (by kernel_rfl)) (fun _ _ _ h => h) (Or.inl ⟨by rfl, ?_⟩) ?_ ?_
        rotate_left
        ·intro w'
         go_simp
         with_reducible rfl
        rotate_left
        ·simp only [Act.put, sit, scz, scs, i64_w, i32_w]
         rfl
        refine pure_ (i := 5) (N := some 22) (v := ?_) (a' := ?_) #[true, true, true, false, true, true, false, false, false, false] rfl rfl (any_of HT_.out (by kernel_rfl)) (fun _ _ _ h => h) (Or.inl ⟨by rfl, ?_⟩) ?_ ?_
        rotate_left
        ·intro w'
         go_simp
         with_reducible rfl
        rotate_left
        ·simp only [Act.put, sit, scz, scs, i64_w, i32_w]
         rfl
        refine pure_ (i := 6) (N := some 23) (v := ?_) (a' := ?_) #[true, true, true, false, true, true, true, false, false, false] rfl rfl (any_of HT_.out (by kernel_rfl)) (fun _ _ _ h => h) (Or.inl ⟨by rfl, ?_⟩) ?_ ?_
        rotate_left
        ·intro w'
         go_simp
         with_reducible rfl
        rotate_left
        ·simp only [Act.put, sit, scz, scs, i64_w, i32_w]
         rfl
        refine take_ (i := 3) (N := some 20) (v := ?_) (a' := ?_) #[true, true, true, true, true, true, true, false, false, false] rfl rfl (take_ofW HT_.out HW_.out (by kernel_rfl)) (fun _ _ _ h => h) (Or.inl ⟨by rfl, ?_⟩) hHeld ?_ ?_
        rotate_left
        ·rintro w' ⟨s0, s1, s2, s3, s4, s5⟩
         go_simp
         with_reducible rfl
        rotate_left
        ·simp only [Act.put, sit, scz, scs, i64_w, i32_w]
         rfl
        refine take_ (i := 7) (N := some 24) (v := ?_) (a' := ?_) #[true, true, true, true, true, true, true, true, false, false] rfl rfl (take_ofW HT_.out HW_.out (by kernel_rfl)) (fun _ _ _ h => h) (Or.inl ⟨by rfl, ?_⟩) hHeld ?_ ?_
        rotate_left
        ·rintro w' ⟨s0, s1, s2, s3, s4, s5⟩
         go_simp
         with_reducible rfl
        rotate_left
        ·simp only [Act.put, sit, scz, scs, i64_w, i32_w]
         rfl
        refine one_ (i := 8) (N := some 25) #[true, true, true, true, true, true, true, true, true, false] rfl rfl (one_of HT_.out (by kernel_rfl)) (by decide) (fun K hK => ?_)
        refine goes_ Try.func42 (by kernel_rfl) rfl #[.agg #[.int .i64 ((rd_T60 l0 x5_1).f0), .int .i64 ((rd_T60 l0 x5_1).f1), .string ((rd_T60 l0 x5_1).f2)], .agg #[.int .i64 ((rd_T60 l1 x5_1).f0), .int .i64 ((rd_T60 l1 x5_1).f1), .string ((rd_T60 l1 x5_1).f2)]] (by rfl) rfl rfl (by (try simp only [mta, mco, mni]); first | done | rfl | (simp only [lnd, lnt]; rfl)) ?_
        with_reducible refine (laws_eqOp.calls ((rd_T60 l0 x5_1).f0) ((rd_T60 l0 x5_1).f1) ((rd_T60 l0 x5_1).f2) ((rd_T60 l1 x5_1).f0) ((rd_T60 l1 x5_1).f1) ((rd_T60 l1 x5_1).f2) false _ A7.out).mono ?_
        rintro e w12 ⟨rfl, hb⟩
        refine ⟨_, rfl, ?_⟩
        have n0_ := am (below_step (by repeat (first | (with_reducible first | exact HB.out | apply bal | apply pdn | apply bd1) | exact HB.out)) hb)
        clear HB
        have HB := n0_
        clear n0_
        refine hK.out _ _ ⟨((HB.out.cell (blc w _ hw153_0)).trans hw153_0), ((HB.out.cell (blc w _ hw153_1)).trans hw153_1), ((HB.out.cell (blc w _ hw153_2)).trans hw153_2), ((HB.out.cell (blc w _ hw154_0)).trans hw154_0), ((HB.out.cell (blc w _ hw154_1)).trans hw154_1), ((HB.out.cell (blc w _ hw154_2)).trans hw154_2)⟩ (fun hHeld => ?_)
        clear hK K
        refine norm_ (a' := ?_) ?_ ?_
        rotate_left
        ·show Act.put _ (some 25) _ = _
         simp only [Act.put, sit, scz, scs, i64_w, i32_w]
         rfl
        refine pure_ (i := 9) (N := some 26) (v := ?_) (a' := ?_) #[true, true, true, true, true, true, true, true, true, true] rfl rfl (any_of HT_.out (by kernel_rfl)) (fun _ _ _ h => h) (Or.inl ⟨by rfl, ?_⟩) ?_ ?_
        rotate_left
        ·intro w'
         go_simp
         with_reducible rfl
        rotate_left
        ·simp only [Act.put, sit, scz, scs, i64_w, i32_w]
         rfl
        refine done_ (done_of HT_.out (by kernel_rfl)) ?_
        try go_wp2
        go_ret
        exact ⟨by first | rfl | (simp [errW_none, errW_some] <;> rfl) | (simp [*, errW_none, errW_some] <;> rfl), by repeat (first | (with_reducible first | exact HB.out | apply bal | apply pdn | apply bd1) | exact HB.out)⟩
      ·rw [if_neg c6] at H
       exact absurd H (by simp)
     ·rw [if_neg c5] at H
      exact absurd H (by simp)
    ·rw [if_neg c4] at H
     have c4b0 : decide (x5_1 < (l0.length : Int)) = false := decide_eq_false c4
     clear c4
     obtain rfl := Option.some.inj H
     go_wp2
     go_ret
     exact ⟨by first | rfl | (simp [errW_none, errW_some] <;> rfl) | (simp [*, errW_none, errW_some] <;> rfl), by repeat (first | (with_reducible first | exact HB.out | apply bal | apply pdn | apply bd1) | exact HB.out)⟩
 ·rw [if_neg c3] at H
  have c3b0 : ((l0.length : Int) == (l1.length : Int)) = false := beq_eq_false_iff_ne.mpr c3
  have c3b1 : ((l0.length : Int) != (l1.length : Int)) = true := bne_iff_ne.mpr c3
  have c3b2 : (l0.length == l1.length) = false := by first | simpa using c3 | (simp at c3 ⊢; omega)
  obtain rfl := Option.some.inj H
  go_enter Try.func49, Try.ntmps49
  go_wp2
  go_ret
  exact ⟨by first | rfl | (simp [errW_none, errW_some] <;> rfl) | (simp [*, errW_none, errW_some] <;> rfl), by repeat (first | (with_reducible first | exact HB.out | apply bal | apply pdn | apply bd1) | exact HB.out)⟩

/-! ### laws_FnExactApplyOps: function 12 -/
def laws_FnExactApplyOps.j0 : Nat → List (S57) → List (S60) → Bool → Option (Bool)
 | 0, _, _, _ => none
 | k + 1, x2, x10, x45 => if x45 = true then (some false) else ((laws_toOpS.f k x2).bind fun t167 => ((laws_eqOpS.f k x10 t167).bind fun t170 => (if t170 = true then (some true) else (some false))))
def laws_FnExactApplyOps.f (k : Nat) (a0 : ByteArray) (a1 : Bool) (l2 : List (S57)) : Option (Bool) := if (a0.size : Int) > 1048576 then (some true) else ((laws_szOpS.f k l2 1048576).bind fun t156 => (if t156 < 0 then (some true) else ((laws_toOpS.f k l2).bind fun t157 => ((spec_ApplyOps.f k a0 a1 t157).bind fun bt160 => ((laws_toOpS.f k l2).bind fun t162 => ((impl_ApplyOps.f a0 a1 t162).bind fun bt165 => (if bt165.1.toList = bt160.1.toList then (laws_FnExactApplyOps.j0 k l2 t162 (bt165.2 != bt160.2)) else (laws_FnExactApplyOps.j0 k l2 t162 true))))))))
theorem laws_FnExactApplyOps.mono_l : ∀ k, (∀ y0 y1 y2, LeO (laws_FnExactApplyOps.j0 k y0 y1 y2) (laws_FnExactApplyOps.j0 (k + 1) y0 y1 y2))
 | 0 => fun _ _ _ r h => by simp [laws_FnExactApplyOps.j0] at h
 | k + 1 => by
  have ih0 := laws_FnExactApplyOps.mono_l k
  ·intro y0 y1 y2
   unfold laws_FnExactApplyOps.j0
   repeat' first
   | (with_reducible exact ih0 _ _ _)
   | (with_reducible exact laws_eqOpS.mono _ _ _)
   | (with_reducible exact laws_szOpS.mono _ _ _)
   | (with_reducible exact laws_toOpS.mono _ _)
   | (with_reducible exact spec_ApplyOps.mono _ _ _ _)
   | (with_reducible exact LeO.refl _)
   | (with_reducible exact LeO.none _)
   | (with_reducible refine LeO.ite ?_ ?_)
   | (with_reducible refine LeO.bind ?_ (fun _ => ?_))
   | exact ih0 _ _ _
   | exact laws_eqOpS.mono _ _ _
   | exact laws_szOpS.mono _ _ _
   | exact laws_toOpS.mono _ _
   | exact spec_ApplyOps.mono _ _ _ _
   | exact LeO.none _
   | refine LeO.ite ?_ ?_
   | refine LeO.bind ?_ (fun _ => ?_)
theorem laws_FnExactApplyOps.mono : ∀ a0 a1 a2 k, LeO (laws_FnExactApplyOps.f k a0 a1 a2) (laws_FnExactApplyOps.f (k + 1) a0 a1 a2) := by
 intro a0 a1 a2 k
 have ih0 := laws_FnExactApplyOps.mono_l k
 unfold laws_FnExactApplyOps.f
 repeat' first
   | (with_reducible exact ih0 _ _ _)
   | (with_reducible exact laws_eqOpS.mono _ _ _)
   | (with_reducible exact laws_szOpS.mono _ _ _)
   | (with_reducible exact laws_toOpS.mono _ _)
   | (with_reducible exact spec_ApplyOps.mono _ _ _ _)
   | (with_reducible exact LeO.refl _)
   | (with_reducible exact LeO.none _)
   | (with_reducible refine LeO.ite ?_ ?_)
   | (with_reducible refine LeO.bind ?_ (fun _ => ?_))
   | exact ih0 _ _ _
   | exact laws_eqOpS.mono _ _ _
   | exact laws_szOpS.mono _ _ _
   | exact laws_toOpS.mono _ _
   | exact spec_ApplyOps.mono _ _ _ _
   | exact LeO.none _
   | refine LeO.ite ?_ ?_
   | refine LeO.bind ?_ (fun _ => ?_)
set_option maxHeartbeats 8000000 in
set_option maxRecDepth 100000 in
theorem laws_FnExactApplyOps.calls (k : Nat) (a0 : ByteArray) (a1 : Bool) (A2 : Option Addr) (c2 : Nat) (l2 : List (S57)) (r : Bool) (w : World) (hr2 : Kd.C k57 w A2 l2.length l2) (hc2 : l2.length ≤ c2) (hT0 : r = true) (h : laws_FnExactApplyOps.f k a0 a1 l2 = some r) :
  Calls Try.prog 12 #[.string a0, .bool a1, .slice A2 l2.length c2] w fun e w' => e = .returned (.bool r) ∧ Below w.heap.size w w' := by
 have hT := am hT0
 clear hT0
 have HR2 := am hr2
 have HC2 := am hc2
 clear hr2 hc2
 have HB := am (Below.refl w.heap.size w)
 have H : (if (a0.size : Int) > 1048576 then (some true) else ((laws_szOpS.f k l2 1048576).bind fun t156 => (if t156 < 0 then (some true) else ((laws_toOpS.f k l2).bind fun t157 => ((spec_ApplyOps.f k a0 a1 t157).bind fun bt160 => ((laws_toOpS.f k l2).bind fun t162 => ((impl_ApplyOps.f a0 a1 t162).bind fun bt165 => (if bt165.1.toList = bt160.1.toList then (laws_FnExactApplyOps.j0 k l2 t162 (bt165.2 != bt160.2)) else (laws_FnExactApplyOps.j0 k l2 t162 true))))))))) = some r := h
 clear h
 by_cases c4 : (a0.size : Int) > 1048576
 ·rw [if_pos c4] at H
  have c4b0 : decide (1048576 < (a0.size : Int)) = true := decide_eq_true c4
  have c4b1 : decide (1048576 < a0.size) = true := decide_eq_true (by omega)
  clear c4
  obtain rfl := Option.some.inj H
  go_enter Try.func12, Try.ntmps12
  go_wp2
  go_ret
  exact ⟨by first | rfl | (simp [errW_none, errW_some] <;> rfl) | (simp [*, errW_none, errW_some] <;> rfl), by repeat (first | (with_reducible first | exact HB.out | apply bal | apply pdn | apply bd1) | exact HB.out)⟩
 ·rw [if_neg c4] at H
  have c4b0 : decide (1048576 < (a0.size : Int)) = false := decide_eq_false c4
  have c4b1 : decide (1048576 < a0.size) = false := decide_eq_false (by omega)
  clear c4
  replace H := Option.bind_eq_some_iff.mp H
  obtain ⟨t156, A50, H⟩ := H
  replace H : (if t156 < 0 then (some true) else ((laws_toOpS.f k l2).bind fun t157 => ((spec_ApplyOps.f k a0 a1 t157).bind fun bt160 => ((laws_toOpS.f k l2).bind fun t162 => ((impl_ApplyOps.f a0 a1 t162).bind fun bt165 => (if bt165.1.toList = bt160.1.toList then (laws_FnExactApplyOps.j0 k l2 t162 (bt165.2 != bt160.2)) else (laws_FnExactApplyOps.j0 k l2 t162 true))))))) = some r := H
  have A5 := am A50
  clear A50
  by_cases c6 : t156 < 0
  ·rw [if_pos c6] at H
   have c6b0 : decide (t156 < 0) = true := decide_eq_true c6
   clear c6
   obtain rfl := Option.some.inj H
   go_enter Try.func12, Try.ntmps12
   go_wp2_with (first | ((with_reducible refine gate_callee (f := 45) rfl ?_); refine goesL_ (some 18) rfl rfl Try.func45 (by kernel_rfl) rfl #[.slice A2 l2.length c2, .int .i64 1048576] rfl (by (try simp only [mta, mco, mni]); first | done | rfl | (simp only [lnd, lnt]; rfl)) ?_; (with_reducible refine (laws_szOpS.calls k _ _ l2 1048576 t156 _ ?side1 ?side2 A5.out).mono ?_); (case side1 => repeat (first | exact HR2.out | (with_reducible first | apply kca | apply kcn | apply kcd))); (case side2 => exact HC2.out); rintro e w7 ⟨rfl, hb⟩; refine ⟨_, rfl, ?_⟩; have n0_ := am (below_step (by repeat (first | (with_reducible first | exact HB.out | apply bal | apply pdn | apply bd1) | exact HB.out)) hb); clear HB; have HB := n0_; clear n0_; (try clear hb); (try clear hb2); (try clear hk); (try clear hi)))
   go_ret
   exact ⟨by first | rfl | (simp [errW_none, errW_some] <;> rfl) | (simp [*, errW_none, errW_some] <;> rfl), by repeat (first | (with_reducible first | exact HB.out | apply bal | apply pdn | apply bd1) | exact HB.out)⟩
  ·rw [if_neg c6] at H
   have c6b0 : decide (t156 < 0) = false := decide_eq_false c6
   clear c6
   replace H := Option.bind_eq_some_iff.mp H
   obtain ⟨t157, A80, H⟩ := H
   replace H : ((spec_ApplyOps.f k a0 a1 t157).bind fun bt160 => ((laws_toOpS.f k l2).bind fun t162 => ((impl_ApplyOps.f a0 a1 t162).bind fun bt165 => (if bt165.1.toList = bt160.1.toList then (laws_FnExactApplyOps.j0 k l2 t162 (bt165.2 != bt160.2)) else (laws_FnExactApplyOps.j0 k l2 t162 true))))) = some r := H
   have A8 := am A80
   clear A80
   replace H := Option.bind_eq_some_iff.mp H
   obtain ⟨⟨t160, t161⟩, A90, H⟩ := H
   replace H : ((laws_toOpS.f k l2).bind fun t162 => ((impl_ApplyOps.f a0 a1 t162).bind fun bt165 => (if bt165.1.toList = t160.toList then (laws_FnExactApplyOps.j0 k l2 t162 (bt165.2 != t161)) else (laws_FnExactApplyOps.j0 k l2 t162 true)))) = some r := H
   have A9 := am A90
   clear A90
   replace H := Option.bind_eq_some_iff.mp H
   obtain ⟨t162, A100, H⟩ := H
   replace H : ((impl_ApplyOps.f a0 a1 t162).bind fun bt165 => (if bt165.1.toList = t160.toList then (laws_FnExactApplyOps.j0 k l2 t162 (bt165.2 != t161)) else (laws_FnExactApplyOps.j0 k l2 t162 true))) = some r := H
   have A10 := am A100
   clear A100
   replace H := Option.bind_eq_some_iff.mp H
   obtain ⟨⟨t165, t166⟩, A110, H⟩ := H
   replace H : (if t165.toList = t160.toList then (laws_FnExactApplyOps.j0 k l2 t162 (t166 != t161)) else (laws_FnExactApplyOps.j0 k l2 t162 true)) = some r := H
   have A11 := am A110
   clear A110
   have HC12 := am H
   clear H
   go_enter Try.func12, Try.ntmps12
   go_upto_region 10 with (first | ((with_reducible refine gate_callee (f := 45) rfl ?_); refine goesL_ (some 18) rfl rfl Try.func45 (by kernel_rfl) rfl #[.slice A2 l2.length c2, .int .i64 1048576] rfl (by (try simp only [mta, mco, mni]); first | done | rfl | (simp only [lnd, lnt]; rfl)) ?_; (with_reducible refine (laws_szOpS.calls k _ _ l2 1048576 t156 _ ?side1 ?side2 A5.out).mono ?_); (case side1 => repeat (first | exact HR2.out | (with_reducible first | apply kca | apply kcn | apply kcd))); (case side2 => exact HC2.out); rintro e w13 ⟨rfl, hb⟩; refine ⟨_, rfl, ?_⟩; have n0_ := am (below_step (by repeat (first | (with_reducible first | exact HB.out | apply bal | apply pdn | apply bd1) | exact HB.out)) hb); clear HB; have HB := n0_; clear n0_; (try clear hb); (try clear hb2); (try clear hk); (try clear hi)) | ((with_reducible refine gate_callee (f := 47) rfl ?_); refine goesL_ (some 25) rfl rfl Try.func47 (by kernel_rfl) rfl #[.slice A2 l2.length c2] rfl (by (try simp only [mta, mco, mni]); first | done | rfl | (simp only [lnd, lnt]; rfl)) ?_; (with_reducible refine (laws_toOpS.calls k _ _ l2 t157 _ ?side1 ?side2 A8.out).mono ?_); (case side1 => repeat (first | exact (Kd.C_below HR2.out HB.out) | (with_reducible first | apply kca | apply kcn | apply kcd))); (case side2 => exact HC2.out); rintro e w14 ⟨v158, rfl, ho0, hb⟩; refine ⟨_, rfl, ?_⟩; have n0_ := am (Kd.R_lower ho0 (below_size (by repeat (first | (with_reducible first | exact HB.out | apply bal | apply pdn | apply bd1) | exact HB.out)))); have n1_ := am (below_step (by repeat (first | (with_reducible first | exact HB.out | apply bal | apply pdn | apply bd1) | exact HB.out)) hb); clear HB; have HO159 := n0_; have HB := n1_; clear n0_ n1_; (try clear hb); (try clear hb2); (try clear hk); (try clear hi); (try clear ho0); obtain ⟨Ao15, co15, eo15⟩ := Kd.R_slice HO159.out; subst eo15) | ((with_reducible refine gate_callee (f := 46) rfl ?_); refine goesL_ (some 26) rfl rfl Try.func46 (by kernel_rfl) rfl #[.string a0, .bool a1, .slice Ao15 t157.length co15] rfl (by (try simp only [mta, mco, mni]); first | done | rfl | (simp only [lnd, lnt]; rfl)) ?_; (with_reducible refine (spec_ApplyOps.calls k a0 a1 _ _ t157 t160 t161 _ ?side1 ?side2 A9.out).mono ?_); (case side1 => repeat (first | exact (Kd.R_reads' HO159.out).2.2 | (with_reducible first | apply kca | apply kcn | apply kcd))); (case side2 => exact (Kd.R_reads' HO159.out).2.1); rintro e w16 ⟨rfl, hb⟩; refine ⟨_, rfl, ?_⟩; have n0_ := am (krb (by (with_reducible repeat (first | apply kra | apply krn | apply krd)); exact HO159.out) hb); have n1_ := am (below_step (by repeat (first | (with_reducible first | exact HB.out | apply bal | apply pdn | apply bd1) | exact HB.out)) hb); clear HO159; clear HB; have HO159 := n0_; have HB := n1_; clear n0_ n1_; (try clear hb); (try clear hb2); (try clear hk); (try clear hi)) | ((with_reducible refine gate_callee (f := 47) rfl ?_); refine goesL_ (some 30) rfl rfl Try.func47 (by kernel_rfl) rfl #[.slice A2 l2.length c2] rfl (by (try simp only [mta, mco, mni]); first | done | rfl | (simp only [lnd, lnt]; rfl)) ?_; (with_reducible refine (laws_toOpS.calls k _ _ l2 t162 _ ?side1 ?side2 A10.out).mono ?_); (case side1 => repeat (first | exact (Kd.C_below HR2.out HB.out) | (with_reducible first | apply kca | apply kcn | apply kcd))); (case side2 => exact HC2.out); rintro e w17 ⟨v163, rfl, ho0, hb⟩; refine ⟨_, rfl, ?_⟩; have n0_ := am (kre (by (with_reducible repeat (first | apply kra | apply krn | apply krd)); exact HO159.out) (Kd.R_base ho0) hb); have n1_ := am (Kd.R_lower (Kd.R_new' ho0 (Kd.R_lt (by (with_reducible repeat (first | apply kra | apply krn | apply krd)); exact HO159.out))) (below_size (by repeat (first | (with_reducible first | exact HB.out | apply bal | apply pdn | apply bd1) | exact HB.out)))); have n2_ := am (below_step (by repeat (first | (with_reducible first | exact HB.out | apply bal | apply pdn | apply bd1) | exact HB.out)) hb); clear HO159; clear HB; have HO159 := n0_; have HO164 := n1_; have HB := n2_; clear n0_ n1_ n2_; (try clear hb); (try clear hb2); (try clear hk); (try clear hi); (try clear ho0); obtain ⟨Ao18, co18, eo18⟩ := Kd.R_slice HO164.out; subst eo18) | ((with_reducible refine gate_callee (f := 48) rfl ?_); refine goesL_ (some 35) rfl rfl Try.func48 (by kernel_rfl) rfl #[.string a0, .bool a1, .slice Ao18 t162.length co18] rfl (by (try simp only [mta, mco, mni]); first | done | rfl | (simp only [lnd, lnt]; rfl)) ?_; (with_reducible refine (impl_ApplyOps.calls a0 a1 _ _ t162 t165 t166 _ ?side1 ?side2 A11.out).mono ?_); (case side1 => repeat (first | exact (Kd.R_reads' HO164.out).2.2 | (with_reducible first | apply kca | apply kcn | apply kcd))); (case side2 => exact (Kd.R_reads' HO164.out).2.1); rintro e w19 ⟨rfl, hb⟩; refine ⟨_, rfl, ?_⟩; have n0_ := am (krb (by (with_reducible repeat (first | apply kra | apply krn | apply krd)); exact HO159.out) hb); have n1_ := am (krb (by (with_reducible repeat (first | apply kra | apply krn | apply krd)); exact HO164.out) hb); have n2_ := am (below_step (by repeat (first | (with_reducible first | exact HB.out | apply bal | apply pdn | apply bd1) | exact HB.out)) hb); clear HO159; clear HO164; clear HB; have HO159 := n0_; have HO164 := n1_; have HB := n2_; clear n0_ n1_ n2_; (try clear hb); (try clear hb2); (try clear hk); (try clear hi)))
   (try simp only [Act.put, sit, scz, scs])
   go_cut [45] (fun v45 wc => ∃ (kq : Nat) (x45_11 : Bool), v45 = .bool x45_11 ∧ Aside0 (laws_FnExactApplyOps.j0 kq l2 t162 x45_11 = some r) ∧ Aside0 (kq ≤ k) ∧ Aside0 (Kd.R k60 60 wc w.heap.size (fun _ => True) (.slice Ao18 t162.length co18) t162) ∧ Aside0 (Below w.heap.size w wc))
   case first =>
    have H := HC12.out
    clear HC12
    by_cases c20 : t165.toList = t160.toList
    ·rw [if_pos c20] at H
     have c20b0 : (t165.toList == t160.toList) = true := beq_iff_eq.mpr c20
     have c20b1 : (t165.toList != t160.toList) = false := bne_eq_false_iff_eq.mpr c20
     clear c20
     (first | rw [c20b0] | (simp only [i64_w, i32_w]; rw [c20b0]) | skip)
     have H' := am H
     clear H
     go_wp2
     go_meet
     case rel => exact ⟨_, ((t166 != t161)), (by first | rfl | (simp; done) | (simp [*]; done)), H', ⟨by first | omega | exact Nat.le_refl _⟩, ⟨by (with_reducible repeat (first | apply kra | apply krn | apply krd)); exact Kd.R_mono HO164.out (fun _ hk => trivial)⟩, ⟨by repeat (first | (with_reducible first | exact HB.out | apply bal | apply pdn | apply bd1) | exact HB.out)⟩⟩
    ·rw [if_neg c20] at H
     have c20b0 : (t165.toList == t160.toList) = false := beq_eq_false_iff_ne.mpr c20
     have c20b1 : (t165.toList != t160.toList) = true := bne_iff_ne.mpr c20
     (first | rw [c20b0] | (simp only [i64_w, i32_w]; rw [c20b0]) | skip)
     have H' := am H
     clear H
     go_wp2
     go_meet
     case rel => exact ⟨_, (true), (by first | rfl | (simp; done) | (simp [*]; done)), H', ⟨by first | omega | exact Nat.le_refl _⟩, ⟨by (with_reducible repeat (first | apply kra | apply krn | apply krd)); exact Kd.R_mono HO164.out (fun _ hk => trivial)⟩, ⟨by repeat (first | (with_reducible first | exact HB.out | apply bal | apply pdn | apply bd1) | exact HB.out)⟩⟩
   case rest =>
    clear HC12
    obtain ⟨kq, x45_11, rfl, HA, HJ11, HO_10, HB⟩ := hcut
    cases kq with
    | zero => exact absurd HA.out (by simp [laws_FnExactApplyOps.j0])
    | succ kj11 =>
     have H := HA.out
     clear HA
     simp only [laws_FnExactApplyOps.j0] at H
     by_cases c21 : x45_11 = true
     ·subst c21
      have H1 : (some false) = some r := by rw [if_pos rfl] at H; exact H
      clear H
      have H := H1
      clear H1
      exact absurd ((Option.some.inj H).trans hT.out) (by decide)
     ·replace c21 := Bool.eq_false_iff.mpr c21
      subst c21
      have H1 : ((laws_toOpS.f kj11 l2).bind fun t167 => ((laws_eqOpS.f kj11 t162 t167).bind fun t170 => (if t170 = true then (some true) else (some false)))) = some r := by rw [if_neg (show ¬ (false = true) by decide)] at H; exact H
      clear H
      have H := H1
      clear H1
      replace H := Option.bind_eq_some_iff.mp H
      obtain ⟨t167, A220, H⟩ := H
      replace H : ((laws_eqOpS.f kj11 t162 t167).bind fun t170 => (if t170 = true then (some true) else (some false))) = some r := H
      have A22 := am A220
      clear A220
      replace H := Option.bind_eq_some_iff.mp H
      obtain ⟨t170, A230, H⟩ := H
      replace H : (if t170 = true then (some true) else (some false)) = some r := H
      have A23 := am A230
      clear A230
      by_cases c24 : t170 = true
      ·subst c24
       have H1 : (some true) = some r := by rw [if_pos rfl] at H; exact H
       clear H
       have H := H1
       clear H1
       obtain rfl := Option.some.inj H
       go_wp2_with (first | ((with_reducible refine gate_callee (f := 47) rfl ?_); refine goesL_ (some 48) rfl rfl Try.func47 (by kernel_rfl) rfl #[.slice A2 l2.length c2] rfl (by (try simp only [mta, mco, mni]); first | done | rfl | (simp only [lnd, lnt]; rfl)) ?_; (with_reducible refine (laws_toOpS.calls kj11 _ _ l2 t167 _ ?side1 ?side2 A22.out).mono ?_); (case side1 => repeat (first | exact (Kd.C_below HR2.out HB.out) | (with_reducible first | apply kca | apply kcn | apply kcd))); (case side2 => exact HC2.out); rintro e w25 ⟨v168, rfl, ho0, hb⟩; refine ⟨_, rfl, ?_⟩; have n0_ := am (kre (by (with_reducible repeat (first | apply kra | apply krn | apply krd)); exact HO_10.out) (Kd.R_base ho0) hb); have n1_ := am (Kd.R_lower (Kd.R_new' ho0 (Kd.R_lt (by (with_reducible repeat (first | apply kra | apply krn | apply krd)); exact HO_10.out))) (below_size (by repeat (first | (with_reducible first | exact HB.out | apply bal | apply pdn | apply bd1) | exact HB.out)))); have n2_ := am (below_step (by repeat (first | (with_reducible first | exact HB.out | apply bal | apply pdn | apply bd1) | exact HB.out)) hb); clear HO_10; clear HB; have HO_10 := n0_; have HO169 := n1_; have HB := n2_; clear n0_ n1_ n2_; (try clear hb); (try clear hb2); (try clear hk); (try clear hi); (try clear ho0); obtain ⟨Ao26, co26, eo26⟩ := Kd.R_slice HO169.out; subst eo26) | ((with_reducible refine gate_callee (f := 49) rfl ?_); refine goesL_ (some 49) rfl rfl Try.func49 (by kernel_rfl) rfl #[.slice Ao18 t162.length co18, .slice Ao26 t167.length co26] rfl (by (try simp only [mta, mco, mni]); first | done | rfl | (simp only [lnd, lnt]; rfl)) ?_; (with_reducible refine (laws_eqOpS.calls kj11 _ _ t162 _ _ t167 true _ ?side1 ?side2 ?side3 ?side4 A23.out).mono ?_); (case side1 => repeat (first | exact (Kd.R_reads' HO_10.out).2.2 | (with_reducible first | apply kca | apply kcn | apply kcd))); (case side2 => exact (Kd.R_reads' HO_10.out).2.1); (case side3 => repeat (first | exact (Kd.R_reads' HO169.out).2.2 | (with_reducible first | apply kca | apply kcn | apply kcd))); (case side4 => exact (Kd.R_reads' HO169.out).2.1); rintro e w27 ⟨rfl, hb⟩; refine ⟨_, rfl, ?_⟩; have n0_ := am (krb (by (with_reducible repeat (first | apply kra | apply krn | apply krd)); exact HO_10.out) hb); have n1_ := am (krb (by (with_reducible repeat (first | apply kra | apply krn | apply krd)); exact HO169.out) hb); have n2_ := am (below_step (by repeat (first | (with_reducible first | exact HB.out | apply bal | apply pdn | apply bd1) | exact HB.out)) hb); clear HO_10; clear HO169; clear HB; have HO_10 := n0_; have HO169 := n1_; have HB := n2_; clear n0_ n1_ n2_; (try clear hb); (try clear hb2); (try clear hk); (try clear hi)))
       go_ret
       exact ⟨by first | rfl | (simp [errW_none, errW_some] <;> rfl) | (simp [*, errW_none, errW_some] <;> rfl), by repeat (first | (with_reducible first | exact HB.out | apply bal | apply pdn | apply bd1) | exact HB.out)⟩
      ·replace c24 := Bool.eq_false_iff.mpr c24
       subst c24
       have H1 : (some false) = some r := by rw [if_neg (show ¬ (false = true) by decide)] at H; exact H
       clear H
       have H := H1
       clear H1
       exact absurd ((Option.some.inj H).trans hT.out) (by decide)

end Go.Proofs.Ythphhklbliambaa.MFnExactApplyOps
