-- Written by a program of this session (wip/tools/myprint.py) over the kit's print: it is not the kit's print.
import Derived.Test.YthphhklbliambaaExtra
import Derived.Test.YthphhklbliambaaMFnOpsx0
import Derived.Test.YthphhklbliambaaMFnOpsx2
import Derived.Test.YthphhklbliambaaMFnOpsx7
namespace Go.Proofs.Ythphhklbliambaa.MFnOps
open Go.RowKit Go.Proofs.YthphhklbliambaaW.PrintWords Go.Proofs.YthphhklbliambaaW.PrintLast Go.Proofs.YthphhklbliambaaW.PrintMore
open List renaming setIfInBounds_toArray → sit, set_cons_zero → scz, set_cons_succ → scs, map_toArray → mta, map_cons → mco, map_nil → mni, length_drop → lnd, length_take → lnt
open World renaming block_lt_of_cell? → blc
attribute [local go_sem] max2_int min2_int max_two min_two max_three min_three max_four min_four   -- for this text's walks alone
set_option linter.unusedVariables false
set_option linter.unusedSimpArgs false

/-! ### impl_ApplyOps: function 48 -/
set_option maxHeartbeats 4000000 in
set_option maxRecDepth 100000 in
theorem impl_ApplyOps.index  (p : S60 → Bool) (A0 : Option Addr) (c0 : Nat) (l0 : List S60) (w : World) (hr0 : Kd.C k60 w A0 l0.length l0)
  (hp : ∀ (W : World) (x : S60) , Below w.heap.size w W → x ∈ l0 → Calls Try.prog 98 #[.agg #[.int .i64 x.f0, .int .i64 x.f1, .string x.f2]] W fun e w' => e = .returned (.bool (p x)) ∧ Below w.heap.size w w') :
  Calls Try.prog 123 #[.slice A0 l0.length c0, .func (.func 98) #[] #[]] w fun e w' => e = .returned (.int .i64 (idxP p l0 0)) ∧ Below w.heap.size w w' := by
 have HR0 := am hr0
 have HP := am hp
 have hm : l0.length ≤ 9223372036854775807 := hr0.2.1
 clear hr0 hp
 go_enter Try.func123, Try.ntmps123
 go_wp2
 go_loopg [5, 8] l0.length (fun gg _ s8 wr => ∃ kk : Nat, kk ≤ l0.length ∧ l0.length - kk ≤ gg ∧ s8 = .int .i64 kk ∧ Aside0 (Below w.heap.size w wr) ∧ Aside0 (idxP p l0 0 = idxP p (l0.drop kk) kk))
 case atStart => exact ⟨0, Nat.zero_le _, by omega, rfl, ⟨Below.refl _ w⟩, ⟨rfl⟩⟩
 case round =>
  obtain ⟨kk, hkk, hg, rfl, BW, AI⟩ := hrel
  by_cases hlt : kk < l0.length
  ·have hltz : (kk : Int) < (l0.length : Int) := by omega
   obtain ⟨ad, e, hx0, hx1, hx2⟩ := at_T60 HR0.out (kk : Int) (by omega) hltz
   cases e
   rw [Int.toNat_natCast] at hx0
   replace hx0 := (BW.out.cell (blc w _ hx0)).trans hx0
   rw [Int.toNat_natCast] at hx1
   replace hx1 := (BW.out.cell (blc w _ hx1)).trans hx1
   rw [Int.toNat_natCast] at hx2
   replace hx2 := (BW.out.cell (blc w _ hx2)).trans hx2
   have HE : Aside0 (rd_T60 l0 (kk : Int) = l0[kk]) := ⟨by simp [rd_T60, List.getD_eq_getElem?_getD, List.getElem?_eq_getElem hlt]⟩
   have hcall := HP.out wr (rd_T60 l0 (kk : Int))  BW.out (by rw [HE.out]; exact List.getElem_mem hlt)
   have HD := am (idxP_drop p l0 kk hlt)
   generalize rd_T60 l0 (kk : Int) = y at hx0 hx1 hx2 hcall HE
   cases hq : p y with
   | true =>
    rw [hq] at hcall
    have HQ := am hq
    clear hq
    go_wp2_with (go_at_call 98; refine hcall.mono ?_; rintro e w' ⟨rfl, hb'⟩)
    go_ret
    refine ⟨?_, hb'⟩
    rw [AI.out, HD.out, ← HE.out, if_pos HQ.out]
    rfl
   | false =>
    rw [hq] at hcall
    have HQ := am hq
    clear hq
    go_wp2_with (go_at_call 98; refine hcall.mono ?_; rintro e w' ⟨rfl, hb'⟩)
    go_roundg (l0.length - (kk + 1))
    case measure => omega
    case rel => exact ⟨kk + 1, by omega, by omega, by go_num, ⟨hb'⟩, ⟨by rw [AI.out, HD.out, ← HE.out, HQ.out]; rfl⟩⟩
  ·have hltz : ¬ (kk : Int) < (l0.length : Int) := by omega
   go_wp2
   go_ret
   refine ⟨?_, BW.out⟩
   rw [AI.out, List.drop_of_length_le (by omega)]
   rfl
set_option maxHeartbeats 2000000 in
theorem impl_ApplyOps.contains  (p : S60 → Bool) (A0 : Option Addr) (c0 : Nat) (l0 : List S60) (w : World) (hr0 : Kd.C k60 w A0 l0.length l0)
  (hp : ∀ (W : World) (x : S60) , Below w.heap.size w W → x ∈ l0 → Calls Try.prog 98 #[.agg #[.int .i64 x.f0, .int .i64 x.f1, .string x.f2]] W fun e w' => e = .returned (.bool (p x)) ∧ Below w.heap.size w w') :
  Calls Try.prog 97 #[.slice A0 l0.length c0, .func (.func 98) #[] #[]] w fun e w' => e = .returned (.bool (l0.any p)) ∧ Below w.heap.size w w' := by
 have HI := impl_ApplyOps.index  p A0 c0 l0 w hr0 hp
 have HQ := am (idxP_dec p l0)
 clear hr0 hp
 generalize idxP p l0 0 = q at HI HQ
 generalize l0.any p = b at HQ
 go_enter Try.func97, Try.ntmps97
 go_wp2_with (go_at_call 123; refine HI.mono ?_; rintro e w' ⟨rfl, hb⟩)
 go_ret
 exact ⟨by rw [← HQ.out]; rfl, hb⟩
def impl_ApplyOps.okB (x : S60) : Bool := (impl_OpOk.f 2 1 0 x.f0 x.f1 x.f2).getD false
def impl_ApplyOps.l0 : ByteArray → Bool → List S60 → Option (ByteArray × Bool)
 | b, t, [] => some (b, t)
 | b, t, o :: l => (impl_Op_apply.f 2 o.f0 o.f1 o.f2 b t).bind fun r => impl_ApplyOps.l0 r.1 r.2 l
def impl_ApplyOps.f (b : ByteArray) (t : Bool) (l : List S60) : Option (ByteArray × Bool) :=
 if l.length ≤ 24 ∧ b.size ≤ 64 then (if (l.all fun x => (impl_OpOk.f 2 1 0 x.f0 x.f1 x.f2).isSome) = true then (if (l.any fun x => !impl_ApplyOps.okB x) = true then some ((⟨#[]⟩ : ByteArray), false) else impl_ApplyOps.l0 (if t = true then b else (⟨#[]⟩ : ByteArray)) t l) else none) else some ((⟨#[]⟩ : ByteArray), false)
set_option maxHeartbeats 2000000 in
set_option maxRecDepth 100000 in
theorem impl_ApplyOps.pred (x : S60) (v : Bool) (W : World) (hv : impl_OpOk.f 2 1 0 x.f0 x.f1 x.f2 = some v) :
  Calls Try.prog 98 #[.agg #[.int .i64 x.f0, .int .i64 x.f1, .string x.f2]] W fun e w' => e = .returned (.bool (!v)) ∧ Below W.heap.size W w' := by
 have HV := am hv
 clear hv
 have HS0 : Aside0 ((fun w' => w'.cell? ⟨W.heap.size, 0, none⟩ = some (.int .i64 x.f0) ∧ w'.cell? ⟨W.heap.size, 1, none⟩ = some (.int .i64 x.f1) ∧ w'.cell? ⟨W.heap.size, 2, none⟩ = some (.string x.f2) ∧ Below W.heap.size W w') ((W.alloc (.cells #[.int .i64 x.f0, .int .i64 x.f1, .string x.f2] 60)).drew)) := ⟨⟨by simp, by simp, by simp, ((Below.refl W.heap.size W).alloc (Nat.le_refl _) _).drew⟩⟩
 have HKP : Aside0 (∀ w1 w2, (fun w' => w'.cell? ⟨W.heap.size, 0, none⟩ = some (.int .i64 x.f0) ∧ w'.cell? ⟨W.heap.size, 1, none⟩ = some (.int .i64 x.f1) ∧ w'.cell? ⟨W.heap.size, 2, none⟩ = some (.string x.f2) ∧ Below W.heap.size W w') w1 → Below w1.heap.size w1 w2 → (fun w' => w'.cell? ⟨W.heap.size, 0, none⟩ = some (.int .i64 x.f0) ∧ w'.cell? ⟨W.heap.size, 1, none⟩ = some (.int .i64 x.f1) ∧ w'.cell? ⟨W.heap.size, 2, none⟩ = some (.string x.f2) ∧ Below W.heap.size W w') w2) := ⟨fun w1 w2 ⟨q0, q1, q2, q3⟩ hb => ⟨(hb.cell (blc w1 _ q0)).trans q0, (hb.cell (blc w1 _ q1)).trans q1, (hb.cell (blc w1 _ q2)).trans q2, q3.trans (hb.mono q3.size)⟩⟩
 cases v
 all_goals
  go_enter Try.func98, Try.ntmps98
  go_wp2
  refine start_ (n := 5) (S := fun w' => w'.cell? ⟨W.heap.size, 0, none⟩ = some (.int .i64 x.f0) ∧ w'.cell? ⟨W.heap.size, 1, none⟩ = some (.int .i64 x.f1) ∧ w'.cell? ⟨W.heap.size, 2, none⟩ = some (.string x.f2) ∧ Below W.heap.size W w') (ds := []) #[false, false, false, false, false] (by kernel_rfl) rfl rfl (HS0.out) (fun hHeld => ?_)
  generalize (W.alloc (.cells #[.int .i64 x.f0, .int .i64 x.f1, .string x.f2] 60)).drew = w9 at hHeld ⊢
  refine take_ (i := 1) (N := some 4) (v := ?_) (a' := ?_) #[false, true, false, false, false] rfl rfl (by kernel_rfl) (fun _ _ _ h => h) (Or.inl ⟨by rfl, ?_⟩) hHeld ?_ ?_
  rotate_left
  ·rintro w' ⟨s0, s1, s2, s3⟩
   go_simp
   with_reducible rfl
  rotate_left
  ·simp only [Act.put, sit, scz, scs, i64_w, i32_w]
   rfl
  refine one_ (i := 0) (N := some 3) #[true, true, false, false, false] rfl rfl (by kernel_rfl) (by decide) (fun K hK => ?_)
  refine goes_ Try.func87 (by kernel_rfl) rfl #[] (by rfl) rfl rfl (by (try simp only [mta, mco, mni]); first | done | rfl) ?_
  with_reducible refine (impl_plainCode.calls 1 0 _ rfl).mono ?_
  rintro e w2 ⟨rfl, hb⟩
  refine ⟨_, rfl, ?_⟩
  refine hK.out _ _ (HKP.out _ _ hHeld hb) (fun hHeld => ?_)
  clear hK K
  refine norm_ (a' := ?_) ?_ ?_
  rotate_left
  ·show Act.put _ (some 3) _ = _
   simp only [Act.put, sit, scz, scs, i64_w, i32_w]
   rfl
  refine one_ (i := 2) (N := some 5) #[true, true, true, false, false] rfl rfl (by kernel_rfl) (by decide) (fun K hK => ?_)
  refine goes_ Try.func86 (by kernel_rfl) rfl #[.agg #[.int .i64 1, .int .i64 0], .agg #[.int .i64 x.f0, .int .i64 x.f1, .string x.f2]] (by rfl) rfl rfl (by (try simp only [mta, mco, mni]); first | done | rfl) ?_
  with_reducible refine (impl_OpOk.calls 2 1 0 x.f0 x.f1 x.f2 _ _ HV.out).mono ?_
  rintro e w2 ⟨rfl, hb⟩
  refine ⟨_, rfl, ?_⟩
  refine hK.out _ _ (HKP.out _ _ hHeld hb) (fun hHeld => ?_)
  clear hK K
  refine norm_ (a' := ?_) ?_ ?_
  rotate_left
  ·show Act.put _ (some 5) _ = _
   simp only [Act.put, sit, scz, scs, i64_w, i32_w]
   rfl
  refine pure_ (i := 3) (N := some 6) (v := ?_) (a' := ?_) #[true, true, true, true, false] rfl rfl (by kernel_rfl) (fun _ _ _ h => h) (Or.inl ⟨by rfl, ?_⟩) ?_ ?_
  rotate_left
  ·intro w'
   go_simp
   with_reducible rfl
  rotate_left
  ·simp only [Act.put, sit, scz, scs, i64_w, i32_w]
   rfl
  refine pure_ (i := 4) (N := some 2) (v := ?_) (a' := ?_) #[true, true, true, true, true] rfl rfl (by kernel_rfl) (fun _ _ _ h => h) (Or.inl ⟨by rfl, ?_⟩) ?_ ?_
  rotate_left
  ·intro w'
   go_simp
   with_reducible rfl
  rotate_left
  ·simp only [Act.put, sit, scz, scs, i64_w, i32_w]
   rfl
  refine done_ (by kernel_rfl) ?_
  go_wp2
  go_ret
  exact ⟨rfl, hHeld.2.2.2⟩
set_option maxHeartbeats 4000000 in
set_option maxRecDepth 100000 in
theorem impl_ApplyOps.calls (a0 : ByteArray) (a1 : Bool) (A2 : Option Addr) (c2 : Nat) (l2 : List S60) (r1 : ByteArray) (r2 : Bool) (w : World) (hr2 : Kd.C k60 w A2 l2.length l2) (hc2 : l2.length ≤ c2) (h : impl_ApplyOps.f a0 a1 l2 = some (r1, r2)) :
  Calls Try.prog 48 #[.string a0, .bool a1, .slice A2 l2.length c2] w fun e w' => e = .returned (.tuple #[.string r1, .bool r2]) ∧ Below w.heap.size w w' := by
 have hn : l2.length ≤ 9223372036854775807 := hr2.2.1
 unfold impl_ApplyOps.f at h
 by_cases g1 : l2.length ≤ 24
 ·by_cases g2 : a0.size ≤ 64
  ·rw [if_pos ⟨g1, g2⟩] at h
   have g1a : decide (24 < (l2.length : Int)) = false := decide_eq_false (by omega)
   have g1b : decide (24 < l2.length) = false := decide_eq_false (by omega)
   have g2a : decide (64 < (a0.size : Int)) = false := decide_eq_false (by omega)
   have g2b : decide (64 < a0.size) = false := decide_eq_false (by omega)
   clear g1 g2
   by_cases g3 : (l2.all fun x => (impl_OpOk.f 2 1 0 x.f0 x.f1 x.f2).isSome) = true
   ·rw [if_pos g3] at h
    have HK : Aside0 (Calls Try.prog 97 #[.slice A2 l2.length c2, .func (.func 98) #[] #[]] w fun e w' => e = .returned (.bool (l2.any fun x => !impl_ApplyOps.okB x)) ∧ Below w.heap.size w w') := ⟨impl_ApplyOps.contains (fun x => !impl_ApplyOps.okB x) A2 c2 l2 w hr2 (fun W x hb hx => by
     obtain ⟨v, hv⟩ := Option.isSome_iff_exists.1 (List.all_eq_true.1 g3 x hx)
     refine (impl_ApplyOps.pred x v W hv).mono fun e w' ⟨he, hw⟩ => ⟨?_, hb.trans (hw.mono hb.size)⟩
     rw [he]
     unfold impl_ApplyOps.okB
     rw [hv]
     rfl)⟩
    have HR0 := am hr2
    clear g3 hr2 hc2
    generalize (l2.any fun x => !impl_ApplyOps.okB x) = AN at HK h
    cases AN with
    | true =>
     rw [if_pos rfl] at h
     obtain ⟨rfl, rfl⟩ := Prod.mk.inj (Option.some.inj h)
     clear h
     go_enter Try.func48, Try.ntmps48
     go_wp2_with (go_at_call 97; refine HK.out.mono ?_; rintro e w' ⟨rfl, hb⟩; have HB := am hb; clear hb)
     go_ret2
     exact ⟨rfl, HB.out⟩
    | false =>
     rw [if_neg (by decide)] at h
     cases a1
     all_goals
      replace h := am h
      go_enter Try.func48, Try.ntmps48
      go_wp2_with (go_at_call 97; refine HK.out.mono ?_; rintro e w' ⟨rfl, hb⟩; have HB := am hb; clear hb)
      go_loopg [0, 1, 26] l2.length (fun gg s0 s1 s26 wr => ∃ (kk : Nat) (b : ByteArray) (t : Bool), kk ≤ l2.length ∧ l2.length - kk ≤ gg ∧ s26 = .int .i64 kk ∧ s0 = .string b ∧ s1 = .bool t ∧ Aside0 (Below w.heap.size w wr) ∧ Aside0 (impl_ApplyOps.l0 b t (l2.drop kk) = some (r1, r2)))
      case atStart => exact ⟨0, _, _, Nat.zero_le _, by omega, rfl, rfl, rfl, HB, ⟨h.out⟩⟩
      case round =>
       clear HB
       obtain ⟨kk, b, t, hkk, hg, rfl, rfl, rfl, HB, HL⟩ := hrel
       by_cases hlt : kk < l2.length
       ·have hltz : (kk : Int) < (l2.length : Int) := by omega
        obtain ⟨ad, e, hx0, hx1, hx2⟩ := at_T60 HR0.out (kk : Int) (by omega) hltz
        cases e
        rw [Int.toNat_natCast] at hx0 hx1 hx2
        replace hx0 := (HB.out.cell (blc w _ hx0)).trans hx0
        replace hx1 := (HB.out.cell (blc w _ hx1)).trans hx1
        replace hx2 := (HB.out.cell (blc w _ hx2)).trans hx2
        have HE : Aside0 (rd_T60 l2 (kk : Int) = l2[kk]) := ⟨by simp [rd_T60, List.getD_eq_getElem?_getD, List.getElem?_eq_getElem hlt]⟩
        have hl := HL.out
        rw [List.drop_eq_getElem_cons hlt, ← HE.out] at hl
        generalize rd_T60 l2 (kk : Int) = y at hx0 hx1 hx2 hl
        clear HE HL
        obtain ⟨⟨b', t'⟩, hq, hl2⟩ := Option.bind_eq_some_iff.1 hl
        have HQ := am hq
        have HL := am hl2
        clear hl hq hl2
        go_wp2_with (go_at_call 96; refine (impl_Op_apply.calls 2 y.f0 y.f1 y.f2 b t b' t' _ HQ.out).mono ?_; rintro e w' ⟨rfl, hb⟩; have HC := am hb; clear hb)
        have HB' := am (HB.out.alloc HB.out.size (.cells #[.int .i64 y.f0, .int .i64 y.f1, .string y.f2] 60))
        go_roundg (l2.length - (kk + 1))
        case measure => omega
        case rel => exact ⟨kk + 1, b', t', by omega, by omega, by go_num, rfl, rfl, ⟨HB'.out.trans (HC.out.mono HB'.out.size)⟩, HL⟩
       ·have hltz : ¬ (kk : Int) < (l2.length : Int) := by omega
        have hl := HL.out
        rw [List.drop_of_length_le (by omega)] at hl
        obtain ⟨rfl, rfl⟩ := Prod.mk.inj (Option.some.inj hl)
        clear hl HL
        go_wp2
        go_ret2
        exact ⟨rfl, HB.out⟩
   ·rw [if_neg g3] at h
    cases h
  ·rw [if_neg (by omega)] at h
   obtain ⟨rfl, rfl⟩ := Prod.mk.inj (Option.some.inj h)
   have g1a : decide (24 < (l2.length : Int)) = false := decide_eq_false (by omega)
   have g1b : decide (24 < l2.length) = false := decide_eq_false (by omega)
   have g2a : decide (64 < (a0.size : Int)) = true := decide_eq_true (by omega)
   have g2b : decide (64 < a0.size) = true := decide_eq_true (by omega)
   clear g1 g2 h hr2
   go_enter Try.func48, Try.ntmps48
   go_wp2
   go_ret2
   exact ⟨rfl, Below.refl _ _⟩
 ·rw [if_neg (by omega)] at h
  obtain ⟨rfl, rfl⟩ := Prod.mk.inj (Option.some.inj h)
  have g1a : decide (24 < (l2.length : Int)) = true := decide_eq_true (by omega)
  have g1b : decide (24 < l2.length) = true := decide_eq_true (by omega)
  clear g1 h hr2
  go_enter Try.func48, Try.ntmps48
  go_wp2
  go_ret2
  exact ⟨rfl, Below.refl _ _⟩

/-- A state of type 139 at block g of W; what its slices lead to came in by w0. -/
def IsS139 (w0 W : World) (g : Nat) (f0 : List Int) (f1 : Int) (f2 : Int) : Prop := ∃ A0 c0, W.heap[g]? = some (.cells #[.slice A0 f0.length c0, .int .i64 f1, .int .u64 f2] 139 (0, 0)) ∧ w0.heap.size ≤ g ∧ Kd.C (Kd.int .u8) w0 A0 f0.length f0
theorem IsS139.grown {w0 W : World} {g : Nat} {f0 : List Int} {f1 : Int} {f2 : Int} {W1 : World} {row : Option Nat} (h : IsS139 w0 W g f0 f1 f2) (hw : W.grownBy W1 row) (hne : some g ≠ row) : IsS139 w0 W1 g f0 f1 f2 := by
 obtain ⟨A0, c0, hb, hg, hr0⟩ := h
 exact ⟨A0, c0, blk_grown hb hw hne, hg, hr0⟩
theorem IsS139.own_neN {w0 W : World} {g : Nat} {f0 : List Int} {f1 : Int} {f2 : Int} {α : Type} {d : Kd α} {e : Nat} {base : Nat} {ok : Nat → Prop} {v : Value} {xs : List α} (h : IsS139 w0 W g f0 f1 f2) (ho : Kd.N d e W base ok v xs) (ht : e ≠ 139) : some g ≠ v.ownBlock := by
 obtain ⟨A0, c0, hb, hg, hr0⟩ := h
 exact Kd.N_ne ho hb ht
theorem IsS139.fresh {w0 W : World} {g : Nat} {f0 : List Int} {f1 : Int} {f2 : Int} (h : IsS139 w0 W g f0 f1 f2) : ∀ k, W.heap.size ≤ k → k ≠ g := by
 obtain ⟨A0, c0, hb, hg, hr0⟩ := h
 exact Kd.freshB hb
theorem IsS139.kept {w0 W : World} {g : Nat} {f0 : List Int} {f1 : Int} {f2 : Int} {W1 : World} {S : Nat → Prop} (h : IsS139 w0 W g f0 f1 f2) (hk : Kept W W1 S) (hne : ¬ S g) : IsS139 w0 W1 g f0 f1 f2 := by
 obtain ⟨A0, c0, hb, hg, hr0⟩ := h
 exact ⟨A0, c0, blk_kept hb hk hne, hg, hr0⟩
theorem IsS139.below {w0 W : World} {g : Nat} {f0 : List Int} {f1 : Int} {f2 : Int} {W1 : World} (h : IsS139 w0 W g f0 f1 f2) (hw : Below W.heap.size W W1) : IsS139 w0 W1 g f0 f1 f2 := h.grown (grown_of_below hw none) (by simp)
theorem IsS139.alloc {w0 W : World} {g : Nat} {f0 : List Int} {f1 : Int} {f2 : Int} (h : IsS139 w0 W g f0 f1 f2) (o : Obj) : IsS139 w0 (W.alloc o) g f0 f1 f2 := h.below (bal (Below.refl _ _) o)
theorem IsS139.drewN {w0 W : World} {g : Nat} {f0 : List Int} {f1 : Int} {f2 : Int} (h : IsS139 w0 W g f0 f1 f2) (m : Nat) : IsS139 w0 (W.drewN m) g f0 f1 f2 := h
theorem IsS139.drew {w0 W : World} {g : Nat} {f0 : List Int} {f1 : Int} {f2 : Int} (h : IsS139 w0 W g f0 f1 f2) : IsS139 w0 W.drew g f0 f1 f2 := h
theorem IsS139.at_ {w0 W : World} {g : Nat} {f0 : List Int} {f1 : Int} {f2 : Int} {w' : World} {m : Nat} (hq : W.drewN m = w') (h : IsS139 w0 W g f0 f1 f2) : IsS139 w0 w' g f0 f1 f2 := by subst hq; exact IsS139.drewN h m
theorem IsS139.apart {w0 W : World} {g : Nat} {f0 : List Int} {f1 : Int} {f2 : Int} {α : Type} {d : Kd α} {e : Nat} {base : Nat} {ok : Nat → Prop} {v : Value} {xs : List α} (h : IsS139 w0 W g f0 f1 f2) (ho : d.R e W base ok v xs) (ht : ∀ q, q ∈ e :: d.E → q ≠ 139) : d.R e W base (fun k => ok k ∧ k ≠ g) v xs := by
 obtain ⟨A0, c0, hb, hg, hr0⟩ := h
 exact Kd.R_types ho hb ht
theorem IsS139.own_ne {w0 W : World} {g : Nat} {f0 : List Int} {f1 : Int} {f2 : Int} {α : Type} {d : Kd α} {e : Nat} {base : Nat} {ok : Nat → Prop} {v : Value} {xs : List α} (h : IsS139 w0 W g f0 f1 f2) (ho : d.R e W base ok v xs) (ht : e ≠ 139) : some g ≠ v.ownBlock := by
 obtain ⟨A0, c0, hb, hg, hr0⟩ := h
 exact Kd.R_ne ho hb ht
theorem IsS139.apartQ {w0 W : World} {g : Nat} {f0 : List Int} {f1 : Int} {f2 : Int} {α : Type} {d : Kd α} {e : Nat} {base : Nat} {ok : Nat → Prop} {v : Value} {xs : List α} (h : IsS139 w0 W g f0 f1 f2) (ho : d.Q e W base ok v xs) (ht : ∀ q, q ∈ e :: d.E → q ≠ 139) : d.Q e W base (fun k => ok k ∧ k ≠ g) v xs := by
 obtain ⟨A0, c0, hb, hg, hr0⟩ := h
 exact Kd.Q_types ho hb ht
theorem IsS139.own_neQ {w0 W : World} {g : Nat} {f0 : List Int} {f1 : Int} {f2 : Int} {α : Type} {d : Kd α} {e : Nat} {base : Nat} {ok : Nat → Prop} {v : Value} {xs : List α} (h : IsS139 w0 W g f0 f1 f2) (ho : d.Q e W base ok v xs) (ht : e ≠ 139) : some g ≠ v.ownBlock := by
 obtain ⟨A0, c0, hb, hg, hr0⟩ := h
 exact Kd.Q_ne ho hb ht
theorem IsS139.apartS {w0 W : World} {g : Nat} {f0 : List Int} {f1 : Int} {f2 : Int} {α : Type} {d : Kd α} {e : Nat} {base : Nat} {ok : Nat → Prop} {v : Value} {xs : List α} (h : IsS139 w0 W g f0 f1 f2) (ho : d.S e W base ok v xs) (ht : ∀ q, q ∈ e :: d.E → q ≠ 139) : d.S e W base (fun k => ok k ∧ k ≠ g) v xs := by
 obtain ⟨A0, c0, hb, hg, hr0⟩ := h
 exact Kd.S_types ho hb ht
theorem IsS139.own_neS {w0 W : World} {g : Nat} {f0 : List Int} {f1 : Int} {f2 : Int} {α : Type} {d : Kd α} {e : Nat} {base : Nat} {ok : Nat → Prop} {v : Value} {xs : List α} (h : IsS139 w0 W g f0 f1 f2) (ho : d.S e W base ok v xs) (ht : e ≠ 139) : some g ≠ v.ownBlock := by
 obtain ⟨A0, c0, hb, hg, hr0⟩ := h
 exact Kd.S_ne ho hb ht
theorem IsS139.lt {w0 W : World} {g : Nat} {f0 : List Int} {f1 : Int} {f2 : Int} (h : IsS139 w0 W g f0 f1 f2) : g < W.heap.size := by
 obtain ⟨A0, c0, hb, hg, hr0⟩ := h
 exact blk_lt hb
theorem IsS139.ge {w0 W : World} {g : Nat} {f0 : List Int} {f1 : Int} {f2 : Int} (h : IsS139 w0 W g f0 f1 f2) : w0.heap.size ≤ g := by
 obtain ⟨A0, c0, hb, hg, hr0⟩ := h
 exact hg
theorem IsS139.ne_blk {w0 W : World} {g : Nat} {f0 : List Int} {f1 : Int} {f2 : Int} {a : Nat} {cs : Array Value} {t : TypeId} {fr : Nat × Nat} (h : IsS139 w0 W g f0 f1 f2) (hb2 : W.heap[a]? = some (.cells cs t fr)) (ht : t ≠ 139) : g ≠ a := by
 obtain ⟨A0, c0, hb, hg, hr0⟩ := h
 rintro rfl
 rw [hb] at hb2
 injection hb2 with hb2
 injection hb2 with _ ht2
 exact ht ht2.symm
theorem IsS139.far {w0 W : World} {g : Nat} {f0 : List Int} {f1 : Int} {f2 : Int} {p : Addr} (h : IsS139 w0 W g f0 f1 f2) (hne : g ≠ p.block) (u : Value) : IsS139 w0 (W.setCell p u) g f0 f1 f2 := by
 obtain ⟨A0, c0, hb, hg, hr0⟩ := h
 exact ⟨A0, c0, blk_far hb hne u, hg, hr0⟩
theorem cellS139_0 {W : World} {g : Nat} {A0 : Option Addr} {c0 : Nat} {f0 : List Int} {f1 : Int} {f2 : Int} (h : W.heap[g]? = some (.cells #[.slice A0 f0.length c0, .int .i64 f1, .int .u64 f2] 139 (0, 0))) : W.cell? ⟨g, 0, none⟩ = some (.slice A0 f0.length c0) := (kce h 0).trans rfl
theorem cellS139_1 {W : World} {g : Nat} {A0 : Option Addr} {c0 : Nat} {f0 : List Int} {f1 : Int} {f2 : Int} (h : W.heap[g]? = some (.cells #[.slice A0 f0.length c0, .int .i64 f1, .int .u64 f2] 139 (0, 0))) : W.cell? ⟨g, 1, none⟩ = some (.int .i64 f1) := (kce h 1).trans rfl
theorem IsS139.set_1 {w0 W : World} {g : Nat} {f0 : List Int} {f1 : Int} {f2 : Int} (h : IsS139 w0 W g f0 f1 f2) (x : Int) : IsS139 w0 (W.setCell ⟨g, 1, none⟩ (.int .i64 x)) g f0 x f2 := by
 obtain ⟨A0, c0, hb, hg, hr0⟩ := h
 exact ⟨A0, c0, by simpa using blk_set hb 1 (.int .i64 x), hg, hr0⟩
theorem cellS139_2 {W : World} {g : Nat} {A0 : Option Addr} {c0 : Nat} {f0 : List Int} {f1 : Int} {f2 : Int} (h : W.heap[g]? = some (.cells #[.slice A0 f0.length c0, .int .i64 f1, .int .u64 f2] 139 (0, 0))) : W.cell? ⟨g, 2, none⟩ = some (.int .u64 f2) := (kce h 2).trans rfl
theorem IsS139.set_2 {w0 W : World} {g : Nat} {f0 : List Int} {f1 : Int} {f2 : Int} (h : IsS139 w0 W g f0 f1 f2) (x : Int) : IsS139 w0 (W.setCell ⟨g, 2, none⟩ (.int .u64 x)) g f0 f1 x := by
 obtain ⟨A0, c0, hb, hg, hr0⟩ := h
 exact ⟨A0, c0, by simpa using blk_set hb 2 (.int .u64 x), hg, hr0⟩
theorem IsS139.new (w0 W : World) (A0 : Option Addr) (c0 : Nat) (f0 : List Int) (f1 : Int) (f2 : Int) (hB : Below w0.heap.size w0 W) (hr0 : Kd.C (Kd.int .u8) w0 A0 f0.length f0) : IsS139 w0 (W.alloc (.cells #[.slice A0 f0.length c0, .int .i64 f1, .int .u64 f2] 139)) W.heap.size f0 f1 f2 := ⟨A0, c0, by simpa using heap_alloc_new W _, hB.size, hr0⟩

/-! ### spec_l00From: function 79 -/
def spec_l00From.f (l0 : List Int) : Option (List Int × Int × Int) := some (l0, 0, 0)
set_option maxHeartbeats 8000000 in
set_option maxRecDepth 100000 in
theorem spec_l00From.calls (A0 : Option Addr) (c0 : Nat) (l0 : List Int) (r1 : List Int) (r2 : Int) (r3 : Int) (w0 w : World) (hB : Below w0.heap.size w0 w) (hr0 : Kd.C (Kd.int .u8) w0 A0 l0.length l0) (hc0 : l0.length ≤ c0) (h : spec_l00From.f l0 = some (r1, r2, r3)) :
  Calls Try.prog 79 #[.slice A0 l0.length c0] w fun e w' => ∃ g_ : Nat, e = .returned (.pointer (some ⟨g_, 0, none⟩)) ∧ IsS139 w0 w' g_ r1 r2 r3 ∧ Below w0.heap.size w0 w' ∧ Below w.heap.size w w' := by
 have hu139 := Try.underlying139
 have HR0 := am hr0
 have HC0 := am hc0
 clear hr0 hc0
 have HBW := am (Below.refl w.heap.size w)
 have HW0 := am hB.size
 have HB := am hB
 clear hB
 have H : (some (l0, 0, 0)) = some (r1, r2, r3) := h
 clear h
 simp only [Option.some.injEq, Prod.mk.injEq] at H
 obtain ⟨rfl, rfl, rfl⟩ := H
 go_enter Try.func79, Try.ntmps79
 go_wp2_with (first | ((with_reducible refine gate_dst (N := 5) rfl ?_); refine box_event ?hg (N := 5) ?hd (cs := #[.slice A0 l0.length c0, .int .i64 0, .int .u64 0]) (t := 139) ?hr ?_; (case hd => rfl); (case hg => rfl); (case hr => first | (go_simp; done) | (go_simp; rfl)); intro gb176 hg w2 hbox hb; have n0_ := am (below_step HBW.out hb); have n1_ := am (below_step (by repeat (first | (with_reducible first | exact HB.out | apply bal | apply pdn | apply bd1) | exact HB.out)) hb); have n2_ := am (hbox); have n3_ := am ((by rw [hg]; exact (below_size (by repeat (first | (with_reducible first | exact HBW.out | apply bal | apply pdn | apply bd1) | exact HBW.out))) : w.heap.size ≤ gb176)); have n4_ := am ((Nat.le_trans HW0.out (by rw [hg]; exact (below_size (by repeat (first | (with_reducible first | exact HBW.out | apply bal | apply pdn | apply bd1) | exact HBW.out))) : w.heap.size ≤ gb176) : w0.heap.size ≤ gb176)); clear HBW; clear HB; have HBW := n0_; have HB := n1_; have BK176 := n2_; have GW176 := n3_; have GE176 := n4_; clear n0_ n1_ n2_ n3_ n4_; clear hb hbox hg))
 go_ret
 exact ⟨_, rfl, (show IsS139 w0 _ gb176 l0 0 0 from ⟨_, _, by (with_reducible repeat (first | apply kdn | apply kdr | apply kal)); exact BK176.out, GE176.out, HR0.out⟩), by repeat (first | (with_reducible first | exact HB.out | apply bal | apply pdn | apply bd1 | refine bst ?_ GE176.out) | exact HB.out), by repeat (first | (with_reducible first | exact HBW.out | apply bal | apply pdn | apply bd1 | refine bst ?_ GW176.out) | exact HBW.out)⟩

/-! ### spec_l00Src_next: function 114 -/
def spec_l00Src_next.f (s0_0 : List Int) (s0_1 : Int) (s0_2 : Int) : Option (Int × Int × Int) := if s0_1 < (s0_0.length : Int) then (if 0 ≤ s0_1 then (if (wrap64 (s0_1 + 1)) ≤ (s0_0.length : Int) then (some (wrap64 (rd s0_0 s0_1), wrap64 (s0_1 + 1), IntKind.u64.wrap ((IntKind.u64.wrap ((IntKind.u64.wrap (s0_2 * 6364136223846793005)) + (IntKind.u64.wrap (wrap64 (rd s0_0 s0_1))))) + 1442695040888963407))) else (some (wrap64 (Go.bits .and .u64 ((IntKind.u64.wrap ((IntKind.u64.wrap ((IntKind.u64.wrap (s0_2 * 6364136223846793005)) + (IntKind.u64.wrap (wrap64 (rd s0_0 s0_1))))) + 1442695040888963407)) / 1099511627776) 255), wrap64 (s0_1 + 1), IntKind.u64.wrap ((IntKind.u64.wrap ((IntKind.u64.wrap (s0_2 * 6364136223846793005)) + (IntKind.u64.wrap (wrap64 (rd s0_0 s0_1))))) + 1442695040888963407)))) else (none)) else (if (wrap64 (s0_1 + 1)) ≤ (s0_0.length : Int) then (some (0, wrap64 (s0_1 + 1), IntKind.u64.wrap ((IntKind.u64.wrap ((IntKind.u64.wrap (s0_2 * 6364136223846793005)) + 0)) + 1442695040888963407))) else (some (wrap64 (Go.bits .and .u64 ((IntKind.u64.wrap ((IntKind.u64.wrap ((IntKind.u64.wrap (s0_2 * 6364136223846793005)) + 0)) + 1442695040888963407)) / 1099511627776) 255), wrap64 (s0_1 + 1), IntKind.u64.wrap ((IntKind.u64.wrap ((IntKind.u64.wrap (s0_2 * 6364136223846793005)) + 0)) + 1442695040888963407))))
set_option maxHeartbeats 8000000 in
set_option maxRecDepth 100000 in
theorem spec_l00Src_next.calls (g : Nat) (s0_0 : List Int) (s0_1 : Int) (s0_2 : Int) (r1 : Int) (r2 : Int) (r3 : Int) (w0 w : World) (hI : IsS139 w0 w g s0_0 s0_1 s0_2) (hB : Below w0.heap.size w0 w) (h : spec_l00Src_next.f s0_0 s0_1 s0_2 = some (r1, r2, r3)) :
  Calls Try.prog 114 #[.pointer (some ⟨g, 0, none⟩)] w fun e w' => e = .returned (.int .i64 r1) ∧ IsS139 w0 w' g s0_0 r2 r3 ∧ Below w0.heap.size w0 w' ∧ KeepBut w w' g none := by
 have HI0 := am hI
 have HK := am (KeepBut.refl w g none)
 have HL := am hB.size
 clear hI
 have HW0 := am hB.size
 have HB := am hB
 clear hB
 have H : (if s0_1 < (s0_0.length : Int) then (if 0 ≤ s0_1 then (if (wrap64 (s0_1 + 1)) ≤ (s0_0.length : Int) then (some (wrap64 (rd s0_0 s0_1), wrap64 (s0_1 + 1), IntKind.u64.wrap ((IntKind.u64.wrap ((IntKind.u64.wrap (s0_2 * 6364136223846793005)) + (IntKind.u64.wrap (wrap64 (rd s0_0 s0_1))))) + 1442695040888963407))) else (some (wrap64 (Go.bits .and .u64 ((IntKind.u64.wrap ((IntKind.u64.wrap ((IntKind.u64.wrap (s0_2 * 6364136223846793005)) + (IntKind.u64.wrap (wrap64 (rd s0_0 s0_1))))) + 1442695040888963407)) / 1099511627776) 255), wrap64 (s0_1 + 1), IntKind.u64.wrap ((IntKind.u64.wrap ((IntKind.u64.wrap (s0_2 * 6364136223846793005)) + (IntKind.u64.wrap (wrap64 (rd s0_0 s0_1))))) + 1442695040888963407)))) else (none)) else (if (wrap64 (s0_1 + 1)) ≤ (s0_0.length : Int) then (some (0, wrap64 (s0_1 + 1), IntKind.u64.wrap ((IntKind.u64.wrap ((IntKind.u64.wrap (s0_2 * 6364136223846793005)) + 0)) + 1442695040888963407))) else (some (wrap64 (Go.bits .and .u64 ((IntKind.u64.wrap ((IntKind.u64.wrap ((IntKind.u64.wrap (s0_2 * 6364136223846793005)) + 0)) + 1442695040888963407)) / 1099511627776) 255), wrap64 (s0_1 + 1), IntKind.u64.wrap ((IntKind.u64.wrap ((IntKind.u64.wrap (s0_2 * 6364136223846793005)) + 0)) + 1442695040888963407))))) = some (r1, r2, r3) := h
 clear h
 by_cases c2 : s0_1 < (s0_0.length : Int)
 ·rw [if_pos c2] at H
  have c2b0 : decide (s0_1 < (s0_0.length : Int)) = true := decide_eq_true c2
  clear c2
  by_cases c3 : 0 ≤ s0_1
  ·rw [if_pos c3] at H
   have c3b0 : decide (0 ≤ s0_1) = true := decide_eq_true c3
   clear c3
   by_cases c4 : (wrap64 (s0_1 + 1)) ≤ (s0_0.length : Int)
   ·rw [if_pos c4] at H
    have c4b0 : decide ((wrap64 (s0_1 + 1)) ≤ (s0_0.length : Int)) = true := decide_eq_true c4
    clear c4
    simp only [Option.some.injEq, Prod.mk.injEq] at H
    obtain ⟨rfl, rfl, rfl⟩ := H
    obtain ⟨ASz5_0, cSz5_0, HGz5, hgz5, HSz5_0⟩ := HI0.out
    have hcz5_0 := cellS139_0 HGz5
    have hcz5_1 := cellS139_1 HGz5
    have hcz5_2 := cellS139_2 HGz5
    have hfz5_1 := kfr HGz5 1
    have hfz5_2 := kfr HGz5 2
    clear HGz5 hgz5
    have p177 : 0 ≤ (s0_1 : Int) := of_decide_eq_true (by first | (with_reducible assumption) | assumption)
    have q177 : s0_1 < (s0_0.length : Int) := of_decide_eq_true (by first | (with_reducible assumption) | assumption)
    obtain ⟨ad177, e177, hx177_0⟩ := Kd.at_int HSz5_0 s0_1 p177 q177
    cases e177
    replace hx177_0 := pw_cell_below HB.out hx177_0
    replace p177 := eq_true p177
    replace q177 := eq_true q177
    go_enter Try.func114, Try.ntmps114
    go_wp2
    repeat (go_quiet (fail); try go_wp2)
    go_ret
    (try simp only [Int.add_zero])
    exact ⟨by first | rfl | (simp [errW_none, errW_some] <;> rfl) | (simp [*, errW_none, errW_some] <;> rfl), by repeat (first | (with_reducible first | exact HI0.out | apply IsS139.alloc | apply IsS139.drewN | apply IsS139.drew | apply IsS139.set_1 | apply IsS139.set_2) | exact HI0.out), by repeat (first | (with_reducible first | exact HB.out | apply bal | apply pdn | apply bd1 | refine bst ?_ (IsS139.ge HI0.out)) | exact HB.out), by repeat (first | (with_reducible first | exact HK.out | apply KeepBut.set_ | apply keep_drewN | apply keep_drew | apply keep_alloc) | exact HK.out)⟩
   ·rw [if_neg c4] at H
    have c4b0 : decide ((wrap64 (s0_1 + 1)) ≤ (s0_0.length : Int)) = false := decide_eq_false c4
    clear c4
    simp only [Option.some.injEq, Prod.mk.injEq] at H
    obtain ⟨rfl, rfl, rfl⟩ := H
    obtain ⟨ASz6_0, cSz6_0, HGz6, hgz6, HSz6_0⟩ := HI0.out
    have hcz6_0 := cellS139_0 HGz6
    have hcz6_1 := cellS139_1 HGz6
    have hcz6_2 := cellS139_2 HGz6
    have hfz6_1 := kfr HGz6 1
    have hfz6_2 := kfr HGz6 2
    clear HGz6 hgz6
    have p177 : 0 ≤ (s0_1 : Int) := of_decide_eq_true (by first | (with_reducible assumption) | assumption)
    have q177 : s0_1 < (s0_0.length : Int) := of_decide_eq_true (by first | (with_reducible assumption) | assumption)
    obtain ⟨ad177, e177, hx177_0⟩ := Kd.at_int HSz6_0 s0_1 p177 q177
    cases e177
    replace hx177_0 := pw_cell_below HB.out hx177_0
    replace p177 := eq_true p177
    replace q177 := eq_true q177
    go_enter Try.func114, Try.ntmps114
    go_wp2
    repeat (go_quiet (fail); try go_wp2)
    go_ret
    (try simp only [Int.add_zero])
    exact ⟨by first | rfl | (simp [errW_none, errW_some] <;> rfl) | (simp [*, errW_none, errW_some] <;> rfl), by repeat (first | (with_reducible first | exact HI0.out | apply IsS139.alloc | apply IsS139.drewN | apply IsS139.drew | apply IsS139.set_1 | apply IsS139.set_2) | exact HI0.out), by repeat (first | (with_reducible first | exact HB.out | apply bal | apply pdn | apply bd1 | refine bst ?_ (IsS139.ge HI0.out)) | exact HB.out), by repeat (first | (with_reducible first | exact HK.out | apply KeepBut.set_ | apply keep_drewN | apply keep_drew | apply keep_alloc) | exact HK.out)⟩
  ·rw [if_neg c3] at H
   exact absurd H (by simp)
 ·rw [if_neg c2] at H
  have c2b0 : decide (s0_1 < (s0_0.length : Int)) = false := decide_eq_false c2
  clear c2
  by_cases c7 : (wrap64 (s0_1 + 1)) ≤ (s0_0.length : Int)
  ·rw [if_pos c7] at H
   have c7b0 : decide ((wrap64 (s0_1 + 1)) ≤ (s0_0.length : Int)) = true := decide_eq_true c7
   clear c7
   simp only [Option.some.injEq, Prod.mk.injEq] at H
   obtain ⟨rfl, rfl, rfl⟩ := H
   obtain ⟨ASz8_0, cSz8_0, HGz8, hgz8, HSz8_0⟩ := HI0.out
   have hcz8_0 := cellS139_0 HGz8
   have hcz8_1 := cellS139_1 HGz8
   have hcz8_2 := cellS139_2 HGz8
   have hfz8_1 := kfr HGz8 1
   have hfz8_2 := kfr HGz8 2
   clear HGz8 hgz8
   go_enter Try.func114, Try.ntmps114
   go_wp2
   repeat (go_quiet (fail); try go_wp2)
   go_ret
   (try simp only [Int.add_zero])
   exact ⟨by first | rfl | (simp [errW_none, errW_some] <;> rfl) | (simp [*, errW_none, errW_some] <;> rfl), by repeat (first | (with_reducible first | exact HI0.out | apply IsS139.alloc | apply IsS139.drewN | apply IsS139.drew | apply IsS139.set_1 | apply IsS139.set_2) | exact HI0.out), by repeat (first | (with_reducible first | exact HB.out | apply bal | apply pdn | apply bd1 | refine bst ?_ (IsS139.ge HI0.out)) | exact HB.out), by repeat (first | (with_reducible first | exact HK.out | apply KeepBut.set_ | apply keep_drewN | apply keep_drew | apply keep_alloc) | exact HK.out)⟩
  ·rw [if_neg c7] at H
   have c7b0 : decide ((wrap64 (s0_1 + 1)) ≤ (s0_0.length : Int)) = false := decide_eq_false c7
   clear c7
   simp only [Option.some.injEq, Prod.mk.injEq] at H
   obtain ⟨rfl, rfl, rfl⟩ := H
   obtain ⟨ASz9_0, cSz9_0, HGz9, hgz9, HSz9_0⟩ := HI0.out
   have hcz9_0 := cellS139_0 HGz9
   have hcz9_1 := cellS139_1 HGz9
   have hcz9_2 := cellS139_2 HGz9
   have hfz9_1 := kfr HGz9 1
   have hfz9_2 := kfr HGz9 2
   clear HGz9 hgz9
   go_enter Try.func114, Try.ntmps114
   go_wp2
   repeat (go_quiet (fail); try go_wp2)
   go_ret
   (try simp only [Int.add_zero])
   exact ⟨by first | rfl | (simp [errW_none, errW_some] <;> rfl) | (simp [*, errW_none, errW_some] <;> rfl), by repeat (first | (with_reducible first | exact HI0.out | apply IsS139.alloc | apply IsS139.drewN | apply IsS139.drew | apply IsS139.set_1 | apply IsS139.set_2) | exact HI0.out), by repeat (first | (with_reducible first | exact HB.out | apply bal | apply pdn | apply bd1 | refine bst ?_ (IsS139.ge HI0.out)) | exact HB.out), by repeat (first | (with_reducible first | exact HK.out | apply KeepBut.set_ | apply keep_drewN | apply keep_drew | apply keep_alloc) | exact HK.out)⟩

/-! ### spec_l00Src_pick: function 82 -/
def spec_l00Src_pick.f (s0_0 : List Int) (s0_1 : Int) (s0_2 : Int) (a1 : Int) : Option (Int × Int × Int) := if a1 ≤ 1 then (some (0, s0_1, s0_2)) else ((spec_l00Src_next.f s0_0 s0_1 s0_2).bind fun bt178 => (if a1 > 200 then ((spec_l00Src_next.f s0_0 bt178.2.1 bt178.2.2).bind fun bt181 => (if a1 = 0 then (none) else (some (Int.tmod (wrap64 ((wrap64 (bt178.1 * 256)) + bt181.1)) a1, bt181.2.1, bt181.2.2)))) else (if a1 = 0 then (none) else (some (Int.tmod bt178.1 a1, bt178.2.1, bt178.2.2)))))
set_option maxHeartbeats 8000000 in
set_option maxRecDepth 100000 in
theorem spec_l00Src_pick.calls (g : Nat) (s0_0 : List Int) (s0_1 : Int) (s0_2 : Int) (a1 : Int) (r1 : Int) (r2 : Int) (r3 : Int) (w0 w : World) (hI : IsS139 w0 w g s0_0 s0_1 s0_2) (hB : Below w0.heap.size w0 w) (h : spec_l00Src_pick.f s0_0 s0_1 s0_2 a1 = some (r1, r2, r3)) :
  Calls Try.prog 82 #[.pointer (some ⟨g, 0, none⟩), .int .i64 a1] w fun e w' => e = .returned (.int .i64 r1) ∧ IsS139 w0 w' g s0_0 r2 r3 ∧ Below w0.heap.size w0 w' ∧ KeepBut w w' g none := by
 have HI0 := am hI
 have HK := am (KeepBut.refl w g none)
 have HL := am hB.size
 clear hI
 have HW0 := am hB.size
 have HB := am hB
 clear hB
 have H : (if a1 ≤ 1 then (some (0, s0_1, s0_2)) else ((spec_l00Src_next.f s0_0 s0_1 s0_2).bind fun bt178 => (if a1 > 200 then ((spec_l00Src_next.f s0_0 bt178.2.1 bt178.2.2).bind fun bt181 => (if a1 = 0 then (none) else (some (Int.tmod (wrap64 ((wrap64 (bt178.1 * 256)) + bt181.1)) a1, bt181.2.1, bt181.2.2)))) else (if a1 = 0 then (none) else (some (Int.tmod bt178.1 a1, bt178.2.1, bt178.2.2)))))) = some (r1, r2, r3) := h
 clear h
 by_cases c3 : a1 ≤ 1
 ·rw [if_pos c3] at H
  have c3b0 : decide (a1 ≤ 1) = true := decide_eq_true c3
  clear c3
  simp only [Option.some.injEq, Prod.mk.injEq] at H
  obtain ⟨rfl, rfl, rfl⟩ := H
  go_enter Try.func82, Try.ntmps82
  go_wp2
  go_ret
  exact ⟨by first | rfl | (simp [errW_none, errW_some] <;> rfl) | (simp [*, errW_none, errW_some] <;> rfl), by repeat (first | (with_reducible first | exact HI0.out | apply IsS139.alloc | apply IsS139.drewN | apply IsS139.drew | apply IsS139.set_1 | apply IsS139.set_2) | exact HI0.out), by repeat (first | (with_reducible first | exact HB.out | apply bal | apply pdn | apply bd1 | refine bst ?_ (IsS139.ge HI0.out)) | exact HB.out), by repeat (first | (with_reducible first | exact HK.out | apply KeepBut.set_ | apply keep_drewN | apply keep_drew | apply keep_alloc) | exact HK.out)⟩
 ·rw [if_neg c3] at H
  have c3b0 : decide (a1 ≤ 1) = false := decide_eq_false c3
  clear c3
  replace H := Option.bind_eq_some_iff.mp H
  obtain ⟨⟨t178, t179, t180⟩, A40, H⟩ := H
  replace H : (if a1 > 200 then ((spec_l00Src_next.f s0_0 t179 t180).bind fun bt181 => (if a1 = 0 then (none) else (some (Int.tmod (wrap64 ((wrap64 (t178 * 256)) + bt181.1)) a1, bt181.2.1, bt181.2.2)))) else (if a1 = 0 then (none) else (some (Int.tmod t178 a1, t179, t180)))) = some (r1, r2, r3) := H
  have A4 := am A40
  clear A40
  by_cases c5 : a1 > 200
  ·rw [if_pos c5] at H
   have c5b0 : decide (200 < a1) = true := decide_eq_true c5
   clear c5
   replace H := Option.bind_eq_some_iff.mp H
   obtain ⟨⟨t181, t182, t183⟩, A60, H⟩ := H
   replace H : (if a1 = 0 then (none) else (some (Int.tmod (wrap64 ((wrap64 (t178 * 256)) + t181)) a1, t182, t183))) = some (r1, r2, r3) := H
   have A6 := am A60
   clear A60
   by_cases c7 : a1 = 0
   ·rw [if_pos c7] at H
    exact absurd H (by simp)
   ·rw [if_neg c7] at H
    have c7b0 : (a1 == 0) = false := beq_eq_false_iff_ne.mpr c7
    have c7b1 : (a1 != 0) = true := bne_iff_ne.mpr c7
    simp only [Option.some.injEq, Prod.mk.injEq] at H
    obtain ⟨rfl, rfl, rfl⟩ := H
    go_enter Try.func82, Try.ntmps82
    go_wp2_with (first | ((with_reducible refine gate_callee (f := 114) rfl ?_); refine goesL_ (some 9) rfl rfl Try.func114 (by kernel_rfl) rfl #[.pointer (some ⟨g, 0, none⟩)] rfl (by (try simp only [mta, mco, mni]); first | done | rfl | (simp only [lnd, lnt]; rfl)) ?_; (with_reducible refine (spec_l00Src_next.calls g s0_0 s0_1 s0_2 t178 t179 t180 w0 _ ?side1 ?side2 A4.out).mono ?_); (case side1 => repeat (first | (with_reducible first | exact HI0.out | apply IsS139.alloc | apply IsS139.drewN | apply IsS139.drew | apply IsS139.set_1 | apply IsS139.set_2) | exact HI0.out)); (case side2 => repeat (first | (with_reducible first | exact HB.out | apply bal | apply pdn | apply bd1 | refine bst ?_ (IsS139.ge HI0.out)) | exact HB.out)); rintro e w8 ⟨rfl, hi, hb, hk⟩; refine ⟨_, rfl, ?_⟩; have n0_ := am (KeepBut.trans (by repeat (first | (with_reducible first | exact HK.out | apply KeepBut.set_ | apply keep_drewN | apply keep_drew | apply keep_alloc) | exact HK.out)) hk (.inl rfl)); have n1_ := am (hb); have n2_ := am (hi); clear HK; clear HB; clear HI0; have HK := n0_; have HB := n1_; have HI0 := n2_; clear n0_ n1_ n2_; (try clear hb); (try clear hb2); (try clear hk); (try clear hi)) | ((with_reducible refine gate_callee (f := 114) rfl ?_); refine goesL_ (some 15) rfl rfl Try.func114 (by kernel_rfl) rfl #[.pointer (some ⟨g, 0, none⟩)] rfl (by (try simp only [mta, mco, mni]); first | done | rfl | (simp only [lnd, lnt]; rfl)) ?_; (with_reducible refine (spec_l00Src_next.calls g s0_0 t179 t180 t181 t182 t183 w0 _ ?side1 ?side2 A6.out).mono ?_); (case side1 => repeat (first | (with_reducible first | exact HI0.out | apply IsS139.alloc | apply IsS139.drewN | apply IsS139.drew | apply IsS139.set_1 | apply IsS139.set_2) | exact HI0.out)); (case side2 => repeat (first | (with_reducible first | exact HB.out | apply bal | apply pdn | apply bd1 | refine bst ?_ (IsS139.ge HI0.out)) | exact HB.out)); rintro e w9 ⟨rfl, hi, hb, hk⟩; refine ⟨_, rfl, ?_⟩; have n0_ := am (KeepBut.trans (by repeat (first | (with_reducible first | exact HK.out | apply KeepBut.set_ | apply keep_drewN | apply keep_drew | apply keep_alloc) | exact HK.out)) hk (.inl rfl)); have n1_ := am (hb); have n2_ := am (hi); clear HK; clear HB; clear HI0; have HK := n0_; have HB := n1_; have HI0 := n2_; clear n0_ n1_ n2_; (try clear hb); (try clear hb2); (try clear hk); (try clear hi)))
    go_ret
    exact ⟨by first | rfl | (simp [errW_none, errW_some] <;> rfl) | (simp [*, errW_none, errW_some] <;> rfl), by repeat (first | (with_reducible first | exact HI0.out | apply IsS139.alloc | apply IsS139.drewN | apply IsS139.drew | apply IsS139.set_1 | apply IsS139.set_2) | exact HI0.out), by repeat (first | (with_reducible first | exact HB.out | apply bal | apply pdn | apply bd1 | refine bst ?_ (IsS139.ge HI0.out)) | exact HB.out), by repeat (first | (with_reducible first | exact HK.out | apply KeepBut.set_ | apply keep_drewN | apply keep_drew | apply keep_alloc) | exact HK.out)⟩
  ·rw [if_neg c5] at H
   have c5b0 : decide (200 < a1) = false := decide_eq_false c5
   clear c5
   by_cases c10 : a1 = 0
   ·rw [if_pos c10] at H
    exact absurd H (by simp)
   ·rw [if_neg c10] at H
    have c10b0 : (a1 == 0) = false := beq_eq_false_iff_ne.mpr c10
    have c10b1 : (a1 != 0) = true := bne_iff_ne.mpr c10
    simp only [Option.some.injEq, Prod.mk.injEq] at H
    obtain ⟨rfl, rfl, rfl⟩ := H
    go_enter Try.func82, Try.ntmps82
    go_wp2_with (first | ((with_reducible refine gate_callee (f := 114) rfl ?_); refine goesL_ (some 9) rfl rfl Try.func114 (by kernel_rfl) rfl #[.pointer (some ⟨g, 0, none⟩)] rfl (by (try simp only [mta, mco, mni]); first | done | rfl | (simp only [lnd, lnt]; rfl)) ?_; (with_reducible refine (spec_l00Src_next.calls g s0_0 s0_1 s0_2 t178 t179 t180 w0 _ ?side1 ?side2 A4.out).mono ?_); (case side1 => repeat (first | (with_reducible first | exact HI0.out | apply IsS139.alloc | apply IsS139.drewN | apply IsS139.drew | apply IsS139.set_1 | apply IsS139.set_2) | exact HI0.out)); (case side2 => repeat (first | (with_reducible first | exact HB.out | apply bal | apply pdn | apply bd1 | refine bst ?_ (IsS139.ge HI0.out)) | exact HB.out)); rintro e w11 ⟨rfl, hi, hb, hk⟩; refine ⟨_, rfl, ?_⟩; have n0_ := am (KeepBut.trans (by repeat (first | (with_reducible first | exact HK.out | apply KeepBut.set_ | apply keep_drewN | apply keep_drew | apply keep_alloc) | exact HK.out)) hk (.inl rfl)); have n1_ := am (hb); have n2_ := am (hi); clear HK; clear HB; clear HI0; have HK := n0_; have HB := n1_; have HI0 := n2_; clear n0_ n1_ n2_; (try clear hb); (try clear hb2); (try clear hk); (try clear hi)))
    go_ret
    exact ⟨by first | rfl | (simp [errW_none, errW_some] <;> rfl) | (simp [*, errW_none, errW_some] <;> rfl), by repeat (first | (with_reducible first | exact HI0.out | apply IsS139.alloc | apply IsS139.drewN | apply IsS139.drew | apply IsS139.set_1 | apply IsS139.set_2) | exact HI0.out), by repeat (first | (with_reducible first | exact HB.out | apply bal | apply pdn | apply bd1 | refine bst ?_ (IsS139.ge HI0.out)) | exact HB.out), by repeat (first | (with_reducible first | exact HK.out | apply KeepBut.set_ | apply keep_drewN | apply keep_drew | apply keep_alloc) | exact HK.out)⟩

/-! ### spec_l00Src_one: function 81 -/
def spec_l00Src_one.f (s0_0 : List Int) (s0_1 : Int) (s0_2 : Int) (a1 : Int) : Option (Bool × Int × Int) := (spec_l00Src_pick.f s0_0 s0_1 s0_2 a1).bind fun bt184 => (some ((bt184.1 == 0), bt184.2.1, bt184.2.2))
set_option maxHeartbeats 8000000 in
set_option maxRecDepth 100000 in
theorem spec_l00Src_one.calls (g : Nat) (s0_0 : List Int) (s0_1 : Int) (s0_2 : Int) (a1 : Int) (r1 : Bool) (r2 : Int) (r3 : Int) (w0 w : World) (hI : IsS139 w0 w g s0_0 s0_1 s0_2) (hB : Below w0.heap.size w0 w) (h : spec_l00Src_one.f s0_0 s0_1 s0_2 a1 = some (r1, r2, r3)) :
  Calls Try.prog 81 #[.pointer (some ⟨g, 0, none⟩), .int .i64 a1] w fun e w' => e = .returned (.bool r1) ∧ IsS139 w0 w' g s0_0 r2 r3 ∧ Below w0.heap.size w0 w' ∧ KeepBut w w' g none := by
 have HI0 := am hI
 have HK := am (KeepBut.refl w g none)
 have HL := am hB.size
 clear hI
 have HW0 := am hB.size
 have HB := am hB
 clear hB
 have H : ((spec_l00Src_pick.f s0_0 s0_1 s0_2 a1).bind fun bt184 => (some ((bt184.1 == 0), bt184.2.1, bt184.2.2))) = some (r1, r2, r3) := h
 clear h
 replace H := Option.bind_eq_some_iff.mp H
 obtain ⟨⟨t184, t185, t186⟩, A30, H⟩ := H
 replace H : (some ((t184 == 0), t185, t186)) = some (r1, r2, r3) := H
 have A3 := am A30
 clear A30
 simp only [Option.some.injEq, Prod.mk.injEq] at H
 obtain ⟨rfl, rfl, rfl⟩ := H
 go_enter Try.func81, Try.ntmps81
 go_wp2_with (first | ((with_reducible refine gate_callee (f := 82) rfl ?_); refine goesL_ (some 7) rfl rfl Try.func82 (by kernel_rfl) rfl #[.pointer (some ⟨g, 0, none⟩), .int .i64 a1] rfl (by (try simp only [mta, mco, mni]); first | done | rfl | (simp only [lnd, lnt]; rfl)) ?_; (with_reducible refine (spec_l00Src_pick.calls g s0_0 s0_1 s0_2 a1 t184 t185 t186 w0 _ ?side1 ?side2 A3.out).mono ?_); (case side1 => repeat (first | (with_reducible first | exact HI0.out | apply IsS139.alloc | apply IsS139.drewN | apply IsS139.drew | apply IsS139.set_1 | apply IsS139.set_2) | exact HI0.out)); (case side2 => repeat (first | (with_reducible first | exact HB.out | apply bal | apply pdn | apply bd1 | refine bst ?_ (IsS139.ge HI0.out)) | exact HB.out)); rintro e w4 ⟨rfl, hi, hb, hk⟩; refine ⟨_, rfl, ?_⟩; have n0_ := am (KeepBut.trans (by repeat (first | (with_reducible first | exact HK.out | apply KeepBut.set_ | apply keep_drewN | apply keep_drew | apply keep_alloc) | exact HK.out)) hk (.inl rfl)); have n1_ := am (hb); have n2_ := am (hi); clear HK; clear HB; clear HI0; have HK := n0_; have HB := n1_; have HI0 := n2_; clear n0_ n1_ n2_; (try clear hb); (try clear hb2); (try clear hk); (try clear hi)))
 go_ret
 exact ⟨by first | rfl | (simp [errW_none, errW_some] <;> rfl) | (simp [*, errW_none, errW_some] <;> rfl), by repeat (first | (with_reducible first | exact HI0.out | apply IsS139.alloc | apply IsS139.drewN | apply IsS139.drew | apply IsS139.set_1 | apply IsS139.set_2) | exact HI0.out), by repeat (first | (with_reducible first | exact HB.out | apply bal | apply pdn | apply bd1 | refine bst ?_ (IsS139.ge HI0.out)) | exact HB.out), by repeat (first | (with_reducible first | exact HK.out | apply KeepBut.set_ | apply keep_drewN | apply keep_drew | apply keep_alloc) | exact HK.out)⟩

/-! ### spec_l00Src_word: function 125 -/
def spec_l00Src_word.l0 : Nat → List Int → Int → List Int → Int → Int → Option (ByteArray × Int × Int)
 | 0, _, _, _, _, _ => none
 | k + 1, x5, x6, x1000, x1001, x1002 => if x6 > 0 then ((spec_l00Src_next.f x1000 x1001 x1002).bind fun bt193 => (if x5.length < 140737488355328 then (spec_l00Src_word.l0 k (x5 ++ [(bt193.1) % 256]) (wrap64 (x6 - 1)) x1000 bt193.2.1 bt193.2.2) else (none))) else (some (strOfNums x5, x1001, x1002))
def spec_l00Src_word.f (k : Nat) (s0_0 : List Int) (s0_1 : Int) (s0_2 : Int) (a1 : Int) : Option (ByteArray × Int × Int) := (spec_l00Src_pick.f s0_0 s0_1 s0_2 a1).bind fun bt190 => (spec_l00Src_word.l0 k (([] : List Int)) bt190.1 s0_0 bt190.2.1 bt190.2.2)
theorem spec_l00Src_word.mono_l : ∀ k, (∀ y0 y1 y2 y3 y4, LeO (spec_l00Src_word.l0 k y0 y1 y2 y3 y4) (spec_l00Src_word.l0 (k + 1) y0 y1 y2 y3 y4))
 | 0 => fun _ _ _ _ _ r h => by simp [spec_l00Src_word.l0] at h
 | k + 1 => by
  have ih0 := spec_l00Src_word.mono_l k
  ·intro y0 y1 y2 y3 y4
   unfold spec_l00Src_word.l0
   repeat' first
   | (with_reducible exact ih0 _ _ _ _ _)
   | (with_reducible exact LeO.refl _)
   | (with_reducible exact LeO.none _)
   | (with_reducible refine LeO.ite ?_ ?_)
   | (with_reducible refine LeO.bind ?_ (fun _ => ?_))
   | exact ih0 _ _ _ _ _
   | exact LeO.none _
   | refine LeO.ite ?_ ?_
   | refine LeO.bind ?_ (fun _ => ?_)
theorem spec_l00Src_word.mono : ∀ a0 a1 a2 a3 k, LeO (spec_l00Src_word.f k a0 a1 a2 a3) (spec_l00Src_word.f (k + 1) a0 a1 a2 a3) := by
 intro a0 a1 a2 a3 k
 have ih0 := spec_l00Src_word.mono_l k
 unfold spec_l00Src_word.f
 repeat' first
   | (with_reducible exact ih0 _ _ _ _ _)
   | (with_reducible exact LeO.refl _)
   | (with_reducible exact LeO.none _)
   | (with_reducible refine LeO.ite ?_ ?_)
   | (with_reducible refine LeO.bind ?_ (fun _ => ?_))
   | exact ih0 _ _ _ _ _
   | exact LeO.none _
   | refine LeO.ite ?_ ?_
   | refine LeO.bind ?_ (fun _ => ?_)
set_option maxHeartbeats 8000000 in
set_option maxRecDepth 100000 in
theorem spec_l00Src_word.calls (k : Nat) (g : Nat) (s0_0 : List Int) (s0_1 : Int) (s0_2 : Int) (a1 : Int) (r1 : ByteArray) (r2 : Int) (r3 : Int) (w0 w : World) (hI : IsS139 w0 w g s0_0 s0_1 s0_2) (hB : Below w0.heap.size w0 w) (h : spec_l00Src_word.f k s0_0 s0_1 s0_2 a1 = some (r1, r2, r3)) :
  Calls Try.prog 125 #[.pointer (some ⟨g, 0, none⟩), .int .i64 a1] w fun e w' => e = .returned (.string r1) ∧ IsS139 w0 w' g s0_0 r2 r3 ∧ Below w0.heap.size w0 w' ∧ KeepBut w w' g none := by
 have HI0 := am hI
 have HK := am (KeepBut.refl w g none)
 have HL := am hB.size
 clear hI
 have HW0 := am hB.size
 have HB := am hB
 clear hB
 have H : ((spec_l00Src_pick.f s0_0 s0_1 s0_2 a1).bind fun bt190 => (spec_l00Src_word.l0 k (([] : List Int)) bt190.1 s0_0 bt190.2.1 bt190.2.2)) = some (r1, r2, r3) := h
 clear h
 obtain ⟨y187, hy187⟩ : ∃ y_ : List Int, y_ = (([] : List Int)) := ⟨_, rfl⟩
 replace H : ((spec_l00Src_pick.f s0_0 s0_1 s0_2 a1).bind fun bt190 => (spec_l00Src_word.l0 k y187 bt190.1 s0_0 bt190.2.1 bt190.2.2)) = some (r1, r2, r3) := by first | (rw [hy187]; with_reducible exact H) | (have H2_ := (Option.bind_some _ _).symm.trans H; rw [hy187]; with_reducible exact H2_) | (have H2_ := (Option.bind_some _ _).symm.trans H; with_reducible exact H2_) | with_reducible exact H | (rw [hy187]; exact H) | exact H
 have Ny187 := am hy187
 clear hy187
 replace H := Option.bind_eq_some_iff.mp H
 obtain ⟨⟨t190, t191, t192⟩, A30, H⟩ := H
 replace H : (spec_l00Src_word.l0 k y187 t190 s0_0 t191 t192) = some (r1, r2, r3) := H
 have A3 := am A30
 clear A30
 have H' := am H
 clear H
 go_enter Try.func125, Try.ntmps125
 go_wp2_with (first | ((with_reducible refine gate_dst (N := 7) rfl ?_); refine Kd.R_lit (Kd.int .u8) _ 5 ?hg (N := 7) ?hd (xs := ([] : List Int)) (inner := []) (ok := fun _ => True) (okp := fun _ => True) ?hr ?hp (fun _ hk => hk) trivial (Below.refl _ _) (Nat.le_refl _) (by simp) ?_; (case hd => rfl); (case hg => rfl); (case hr => first | (go_simp; done) | (go_simp; rfl)); (case hp => exact (Reps.none _ _)); intro v188 w4 ho5 hb hg_ hnew_; clear hg_ hnew_; (first | rw [← Ny187.out] at ho5 | (simp only [Int.reduceToNat] at ho5; rw [← Ny187.out] at ho5)); have n0_ := am (Kd.R_lower ho5 (keep_size (w := w) (g := g) (row := none) (by repeat (first | (with_reducible first | exact HK.out | apply KeepBut.set_ | apply keep_drewN | apply keep_drew | apply keep_alloc) | exact HK.out)))); have n1_ := am (IsS139.below (by repeat (first | (with_reducible first | exact HI0.out | apply IsS139.alloc | apply IsS139.drewN | apply IsS139.drew | apply IsS139.set_1 | apply IsS139.set_2) | exact HI0.out)) hb); have n2_ := am (KeepBut.trans (by repeat (first | (with_reducible first | exact HK.out | apply KeepBut.set_ | apply keep_drewN | apply keep_drew | apply keep_alloc) | exact HK.out)) (KeepBut.of_below hb g none) (.inl rfl)); have n3_ := am (below_step (by repeat (first | (with_reducible first | exact HB.out | apply bal | apply pdn | apply bd1 | refine bst ?_ (IsS139.ge HI0.out)) | exact HB.out)) hb); clear HI0; clear HK; clear HB; have HO189 := n0_; have HI0 := n1_; have HK := n2_; have HB := n3_; clear n0_ n1_ n2_ n3_; clear hb ho5) | ((with_reducible refine gate_callee (f := 82) rfl ?_); refine goesL_ (some 10) rfl rfl Try.func82 (by kernel_rfl) rfl #[.pointer (some ⟨g, 0, none⟩), .int .i64 a1] rfl (by (try simp only [mta, mco, mni]); first | done | rfl | (simp only [lnd, lnt]; rfl)) ?_; (with_reducible refine (spec_l00Src_pick.calls g s0_0 s0_1 s0_2 a1 t190 t191 t192 w0 _ ?side1 ?side2 A3.out).mono ?_); (case side1 => repeat (first | (with_reducible first | exact HI0.out | apply IsS139.alloc | apply IsS139.drewN | apply IsS139.drew | apply IsS139.set_1 | apply IsS139.set_2) | exact HI0.out)); (case side2 => repeat (first | (with_reducible first | exact HB.out | apply bal | apply pdn | apply bd1 | refine bst ?_ (IsS139.ge HI0.out)) | exact HB.out)); rintro e w6 ⟨rfl, hi, hb, hk⟩; refine ⟨_, rfl, ?_⟩; have n0_ := am (Kd.R_mono (Kd.R_keep (IsS139.apart (show IsS139 w0 _ g s0_0 s0_1 s0_2 from by repeat (first | (with_reducible first | exact HI0.out | apply IsS139.alloc | apply IsS139.drewN | apply IsS139.drew | apply IsS139.set_1 | apply IsS139.set_2) | exact HI0.out)) (by (with_reducible repeat (first | apply kra | apply krn | apply krd)); exact HO189.out) (by decide)) hk (fun _ h => h.2)) (fun _ h => h.1)); have n1_ := am (KeepBut.trans (by repeat (first | (with_reducible first | exact HK.out | apply KeepBut.set_ | apply keep_drewN | apply keep_drew | apply keep_alloc) | exact HK.out)) hk (.inl rfl)); have n2_ := am (hb); have n3_ := am (hi); clear HO189; clear HK; clear HB; clear HI0; have HO189 := n0_; have HK := n1_; have HB := n2_; have HI0 := n3_; clear n0_ n1_ n2_ n3_; (try clear hb); (try clear hb2); (try clear hk); (try clear hi)))
 go_loopg [5, 6] k (fun kq v5 v6 w' => ∃ (x5_1 : List Int) (x6_1 : Int) (x1001_1 : Int) (x1002_1 : Int), v6 = .int .i64 x6_1 ∧ Aside0 (spec_l00Src_word.l0 kq x5_1 x6_1 s0_0 x1001_1 x1002_1 = some (r1, r2, r3)) ∧ Aside0 (kq ≤ k) ∧ Aside0 (Kd.R (Kd.int .u8) 5 w' w.heap.size (fun _ => True) v5 x5_1) ∧ Aside0 (IsS139 w0 w' g s0_0 x1001_1 x1002_1) ∧ Aside0 (KeepBut w w' g none) ∧ Aside0 (Below w0.heap.size w0 w'))
 case atStart => exact ⟨(y187), (t190), (t191), (t192), (by first | rfl | (simp; done) | (simp [*]; done)), H', ⟨Nat.le_refl _⟩, ⟨by (with_reducible repeat (first | apply kra | apply krn | apply krd)); exact HO189.out⟩, ⟨by repeat (first | (with_reducible first | exact HI0.out | apply IsS139.alloc | apply IsS139.drewN | apply IsS139.drew | apply IsS139.set_1 | apply IsS139.set_2) | exact HI0.out)⟩, ⟨by repeat (first | (with_reducible first | exact HK.out | apply KeepBut.set_ | apply keep_drewN | apply keep_drew | apply keep_alloc) | exact HK.out)⟩, ⟨by repeat (first | (with_reducible first | exact HB.out | apply bal | apply pdn | apply bd1 | refine bst ?_ (IsS139.ge HI0.out)) | exact HB.out)⟩⟩
 case round =>
  clear H'
  obtain ⟨x5_1, x6_1, x1001_1, x1002_1, rfl, HA, HK1, HO_5, HI0, HK, HB⟩ := hrel
  cases gk with
  | zero => exact absurd HA.out (by simp [spec_l00Src_word.l0])
  | succ k1 =>
   have H := HA.out
   clear HA
   simp only [spec_l00Src_word.l0] at H
   by_cases c7 : x6_1 > 0
   ·rw [if_pos c7] at H
    have c7b0 : decide (0 < x6_1) = true := decide_eq_true c7
    clear c7
    replace H := Option.bind_eq_some_iff.mp H
    obtain ⟨⟨t193, t194, t195⟩, A80, H⟩ := H
    replace H : (if x5_1.length < 140737488355328 then (spec_l00Src_word.l0 k1 (x5_1 ++ [(t193) % 256]) (wrap64 (x6_1 - 1)) s0_0 t194 t195) else (none)) = some (r1, r2, r3) := H
    have A8 := am A80
    clear A80
    by_cases c9 : x5_1.length < 140737488355328
    ·rw [if_pos c9] at H
     have LMc9 := am c9
     clear c9
     obtain ⟨y196, hy196⟩ : ∃ y_ : List Int, y_ = (x5_1 ++ [(t193) % 256]) := ⟨_, rfl⟩
     replace H : (spec_l00Src_word.l0 k1 y196 (wrap64 (x6_1 - 1)) s0_0 t194 t195) = some (r1, r2, r3) := by first | (rw [hy196]; with_reducible exact H) | (have H2_ := (Option.bind_some _ _).symm.trans H; rw [hy196]; with_reducible exact H2_) | (have H2_ := (Option.bind_some _ _).symm.trans H; with_reducible exact H2_) | with_reducible exact H | (rw [hy196]; exact H) | exact H
     have Ny196 := am hy196
     clear hy196
     have H' := am H
     clear H
     go_wp2_with (first | ((with_reducible refine gate_callee (f := 114) rfl ?_); refine goesL_ (some 17) rfl rfl Try.func114 (by kernel_rfl) rfl #[.pointer (some ⟨g, 0, none⟩)] rfl (by (try simp only [mta, mco, mni]); first | done | rfl | (simp only [lnd, lnt]; rfl)) ?_; (with_reducible refine (spec_l00Src_next.calls g s0_0 x1001_1 x1002_1 t193 t194 t195 w0 _ ?side1 ?side2 A8.out).mono ?_); (case side1 => repeat (first | (with_reducible first | exact HI0.out | apply IsS139.alloc | apply IsS139.drewN | apply IsS139.drew | apply IsS139.set_1 | apply IsS139.set_2) | exact HI0.out)); (case side2 => repeat (first | (with_reducible first | exact HB.out | apply bal | apply pdn | apply bd1 | refine bst ?_ (IsS139.ge HI0.out)) | exact HB.out)); rintro e w10 ⟨rfl, hi, hb, hk⟩; refine ⟨_, rfl, ?_⟩; have n0_ := am (Kd.R_mono (Kd.R_keep (IsS139.apart (show IsS139 w0 _ g s0_0 x1001_1 x1002_1 from by repeat (first | (with_reducible first | exact HI0.out | apply IsS139.alloc | apply IsS139.drewN | apply IsS139.drew | apply IsS139.set_1 | apply IsS139.set_2) | exact HI0.out)) (by (with_reducible repeat (first | apply kra | apply krn | apply krd)); exact HO_5.out) (by decide)) hk (fun _ h => h.2)) (fun _ h => h.1)); have n1_ := am (KeepBut.trans (by repeat (first | (with_reducible first | exact HK.out | apply KeepBut.set_ | apply keep_drewN | apply keep_drew | apply keep_alloc) | exact HK.out)) hk (.inl rfl)); have n2_ := am (hb); have n3_ := am (hi); clear HO_5; clear HK; clear HB; clear HI0; have HO_5 := n0_; have HK := n1_; have HB := n2_; have HI0 := n3_; clear n0_ n1_ n2_ n3_; (try clear hb); (try clear hb2); (try clear hk); (try clear hi)) | ((with_reducible refine gate_builtin (b := .append) (xs := #[.tmp 15, .tmp 19]) rfl ?_); at_builtin; refine Kd.R_append (Kd.int .u8) w.heap.size rfl (.tmp 15) (.tmp 19) 48 5 (.int .u8 0) 1 rfl Try.underlying48 info5 rfl (by decide) (by omega) u5 x5_1 ((t193) % 256) [.int .u8 ((t193) % 256)] (fun _ => True) (fun _ => False) rfl rfl ?aP (fun _ hk => hk.elim) ?aF ?aO (Below.refl _ _) ?aS ?aL ?_; (case aP => exact rfl); (case aF => exact (fun _ _ => trivial)); (case aO => exact (by (with_reducible repeat (first | apply kra | apply krn | apply krd)); exact HO_5.out)); (case aS => exact (keep_size (w := w) (g := g) (row := none) (by repeat (first | (with_reducible first | exact HK.out | apply KeepBut.set_ | apply keep_drewN | apply keep_drew | apply keep_alloc) | exact HK.out)))); (case aL => have := LMc9.out; omega); intro v197 w11 ho hb hg hat; rw [← Ny196.out] at ho; have n0_ := am (IsS139.grown (by repeat (first | (with_reducible first | exact HI0.out | apply IsS139.alloc | apply IsS139.drewN | apply IsS139.drew | apply IsS139.set_1 | apply IsS139.set_2) | exact HI0.out)) hg (IsS139.own_ne HI0.out HO_5.out (by decide))); have n1_ := am (below_weaken (by repeat (first | (with_reducible first | exact HB.out | apply bal | apply pdn | apply bd1 | refine bst ?_ (IsS139.ge HI0.out)) | exact HB.out)) HL.out hb); have n2_ := am (KeepBut.trans (by repeat (first | (with_reducible first | exact HK.out | apply KeepBut.set_ | apply keep_drewN | apply keep_drew | apply keep_alloc) | exact HK.out)) (KeepBut.of_grown hg g) (Kd.R_base2 HO_5.out)); have n3_ := am (ho); clear HI0; clear HB; clear HK; clear HO_5; have HI0 := n0_; have HB := n1_; have HK := n2_; have HO198 := n3_; clear n0_ n1_ n2_ n3_; clear ho hb hg hat))
     go_roundg k1
     case measure => have := HK1.out; omega
     case rel => exact ⟨(y196), (wrap64 (x6_1 - 1)), (t194), (t195), (by first | rfl | (simp; done) | (simp [*]; done)), H', ⟨by have := HK1.out; omega⟩, ⟨by (with_reducible repeat (first | apply kra | apply krn | apply krd)); exact HO198.out⟩, ⟨by repeat (first | (with_reducible first | exact HI0.out | apply IsS139.alloc | apply IsS139.drewN | apply IsS139.drew | apply IsS139.set_1 | apply IsS139.set_2) | exact HI0.out)⟩, ⟨by repeat (first | (with_reducible first | exact HK.out | apply KeepBut.set_ | apply keep_drewN | apply keep_drew | apply keep_alloc) | exact HK.out)⟩, ⟨by repeat (first | (with_reducible first | exact HB.out | apply bal | apply pdn | apply bd1 | refine bst ?_ (IsS139.ge HI0.out)) | exact HB.out)⟩⟩
    ·rw [if_neg c9] at H
     exact absurd H (by simp)
   ·rw [if_neg c7] at H
    have c7b0 : decide (0 < x6_1) = false := decide_eq_false c7
    clear c7
    simp only [Option.some.injEq, Prod.mk.injEq] at H
    obtain ⟨rfl, rfl, rfl⟩ := H
    have hcv12 := own_string (P := Try.prog) Try.underlying48 Try.underlying5 Try.underlying9 (Kd.own_of_R HO_5.out)
    go_wp2
    go_ret
    exact ⟨by first | rfl | (simp [errW_none, errW_some] <;> rfl) | (simp [*, errW_none, errW_some] <;> rfl), by repeat (first | (with_reducible first | exact HI0.out | apply IsS139.alloc | apply IsS139.drewN | apply IsS139.drew | apply IsS139.set_1 | apply IsS139.set_2) | exact HI0.out), by repeat (first | (with_reducible first | exact HB.out | apply bal | apply pdn | apply bd1 | refine bst ?_ (IsS139.ge HI0.out)) | exact HB.out), by repeat (first | (with_reducible first | exact HK.out | apply KeepBut.set_ | apply keep_drewN | apply keep_drew | apply keep_alloc) | exact HK.out)⟩

/-! ### spec_l16Bytes: function 100 -/
def spec_l16Bytes.f (k : Nat) (s0_0 : List Int) (s0_1 : Int) (s0_2 : Int) : Option (ByteArray × Int × Int) := (spec_l00Src_one.f s0_0 s0_1 s0_2 12).bind fun bt199 => (if bt199.1 = true then ((spec_l00Src_pick.f s0_0 bt199.2.1 bt199.2.2 3).bind fun bt202 => (if 0 ≤ (wrap64 (63 + bt202.1)) then (if (wrap64 (63 + bt202.1) : Int).toNat ≤ 281474976710656 then (some (strOfNums (List.replicate (wrap64 (63 + bt202.1) : Int).toNat 0), bt202.2.1, bt202.2.2)) else (none)) else (none))) else ((spec_l00Src_word.f k s0_0 bt199.2.1 bt199.2.2 9).bind fun bt208 => (some (bt208.1, bt208.2.1, bt208.2.2))))
theorem spec_l16Bytes.mono : ∀ a0 a1 a2 k, LeO (spec_l16Bytes.f k a0 a1 a2) (spec_l16Bytes.f (k + 1) a0 a1 a2) := by
 intro a0 a1 a2 k
 unfold spec_l16Bytes.f
 repeat' first
   | (with_reducible exact spec_l00Src_word.mono _ _ _ _ _)
   | (with_reducible exact LeO.refl _)
   | (with_reducible exact LeO.none _)
   | (with_reducible refine LeO.ite ?_ ?_)
   | (with_reducible refine LeO.bind ?_ (fun _ => ?_))
   | exact spec_l00Src_word.mono _ _ _ _ _
   | exact LeO.none _
   | refine LeO.ite ?_ ?_
   | refine LeO.bind ?_ (fun _ => ?_)
set_option maxHeartbeats 8000000 in
set_option maxRecDepth 100000 in
theorem spec_l16Bytes.calls (k : Nat) (g : Nat) (s0_0 : List Int) (s0_1 : Int) (s0_2 : Int) (r1 : ByteArray) (r2 : Int) (r3 : Int) (w0 w : World) (hI : IsS139 w0 w g s0_0 s0_1 s0_2) (hB : Below w0.heap.size w0 w) (h : spec_l16Bytes.f k s0_0 s0_1 s0_2 = some (r1, r2, r3)) :
  Calls Try.prog 100 #[.pointer (some ⟨g, 0, none⟩)] w fun e w' => e = .returned (.string r1) ∧ IsS139 w0 w' g s0_0 r2 r3 ∧ Below w0.heap.size w0 w' ∧ KeepBut w w' g none := by
 have HI0 := am hI
 have HK := am (KeepBut.refl w g none)
 have HL := am hB.size
 clear hI
 have HW0 := am hB.size
 have HB := am hB
 clear hB
 have H : ((spec_l00Src_one.f s0_0 s0_1 s0_2 12).bind fun bt199 => (if bt199.1 = true then ((spec_l00Src_pick.f s0_0 bt199.2.1 bt199.2.2 3).bind fun bt202 => (if 0 ≤ (wrap64 (63 + bt202.1)) then (if (wrap64 (63 + bt202.1) : Int).toNat ≤ 281474976710656 then (some (strOfNums (List.replicate (wrap64 (63 + bt202.1) : Int).toNat 0), bt202.2.1, bt202.2.2)) else (none)) else (none))) else ((spec_l00Src_word.f k s0_0 bt199.2.1 bt199.2.2 9).bind fun bt208 => (some (bt208.1, bt208.2.1, bt208.2.2))))) = some (r1, r2, r3) := h
 clear h
 replace H := Option.bind_eq_some_iff.mp H
 obtain ⟨⟨t199, t200, t201⟩, A20, H⟩ := H
 replace H : (if t199 = true then ((spec_l00Src_pick.f s0_0 t200 t201 3).bind fun bt202 => (if 0 ≤ (wrap64 (63 + bt202.1)) then (if (wrap64 (63 + bt202.1) : Int).toNat ≤ 281474976710656 then (some (strOfNums (List.replicate (wrap64 (63 + bt202.1) : Int).toNat 0), bt202.2.1, bt202.2.2)) else (none)) else (none))) else ((spec_l00Src_word.f k s0_0 t200 t201 9).bind fun bt208 => (some (bt208.1, bt208.2.1, bt208.2.2)))) = some (r1, r2, r3) := H
 have A2 := am A20
 clear A20
 by_cases c3 : t199 = true
 ·subst c3
  have H1 : ((spec_l00Src_pick.f s0_0 t200 t201 3).bind fun bt202 => (if 0 ≤ (wrap64 (63 + bt202.1)) then (if (wrap64 (63 + bt202.1) : Int).toNat ≤ 281474976710656 then (some (strOfNums (List.replicate (wrap64 (63 + bt202.1) : Int).toNat 0), bt202.2.1, bt202.2.2)) else (none)) else (none))) = some (r1, r2, r3) := by rw [if_pos rfl] at H; exact H
  clear H
  have H := H1
  clear H1
  replace H := Option.bind_eq_some_iff.mp H
  obtain ⟨⟨t202, t203, t204⟩, A40, H⟩ := H
  replace H : (if 0 ≤ (wrap64 (63 + t202)) then (if (wrap64 (63 + t202) : Int).toNat ≤ 281474976710656 then (some (strOfNums (List.replicate (wrap64 (63 + t202) : Int).toNat 0), t203, t204)) else (none)) else (none)) = some (r1, r2, r3) := H
  have A4 := am A40
  clear A40
  obtain ⟨ji5, hji5⟩ : ∃ j_ : Int, (wrap64 (63 + t202)) = j_ := ⟨_, rfl⟩
  replace H : (if 0 ≤ (ji5) then (if (ji5 : Int).toNat ≤ 281474976710656 then (some (strOfNums (List.replicate (ji5 : Int).toNat 0), t203, t204)) else (none)) else (none)) = some (r1, r2, r3) := by first | (rw [hji5] at H; exact H) | (simp only [hji5] at H ⊢; exact H)
  (try rw [hji5] at A2)
  (try rw [hji5] at A4)
  have hji5w : (IntKind.i64.wrap (63 + t202)) = ji5 := (i64_w _).trans hji5
  by_cases c6 : 0 ≤ (ji5)
  ·rw [if_pos c6] at H
   have c6b0 := eq_true c6
   have c6b1 : decide (0 ≤ (ji5)) = true := decide_eq_true c6
   clear c6
   by_cases c7 : (ji5 : Int).toNat ≤ 281474976710656
   ·rw [if_pos c7] at H
    have c7b0 := eq_true c7
    have c7b1 : decide ((ji5 : Int).toNat ≤ 281474976710656) = true := decide_eq_true c7
    clear c7
    obtain ⟨y205, hy205⟩ : ∃ y_ : List Int, y_ = (List.replicate (ji5 : Int).toNat 0) := ⟨_, rfl⟩
    replace H : (some (strOfNums y205, t203, t204)) = some (r1, r2, r3) := by first | (rw [hy205]; with_reducible exact H) | (have H2_ := (Option.bind_some _ _).symm.trans H; rw [hy205]; with_reducible exact H2_) | (have H2_ := (Option.bind_some _ _).symm.trans H; with_reducible exact H2_) | with_reducible exact H | (rw [hy205]; exact H) | exact H
    have Ny205 := am hy205
    clear hy205
    simp only [Option.some.injEq, Prod.mk.injEq] at H
    obtain ⟨rfl, rfl, rfl⟩ := H
    go_enter Try.func100, Try.ntmps100
    go_wp2_with (first | ((with_reducible refine gate_callee (f := 81) rfl ?_); refine goesL_ (some 4) rfl rfl Try.func81 (by kernel_rfl) rfl #[.pointer (some ⟨g, 0, none⟩), .int .i64 12] rfl (by (try simp only [mta, mco, mni]); first | done | rfl | (simp only [lnd, lnt]; rfl)) ?_; (with_reducible refine (spec_l00Src_one.calls g s0_0 s0_1 s0_2 12 true t200 t201 w0 _ ?side1 ?side2 A2.out).mono ?_); (case side1 => repeat (first | (with_reducible first | exact HI0.out | apply IsS139.alloc | apply IsS139.drewN | apply IsS139.drew | apply IsS139.set_1 | apply IsS139.set_2) | exact HI0.out)); (case side2 => repeat (first | (with_reducible first | exact HB.out | apply bal | apply pdn | apply bd1 | refine bst ?_ (IsS139.ge HI0.out)) | exact HB.out)); rintro e w8 ⟨rfl, hi, hb, hk⟩; refine ⟨_, rfl, ?_⟩; have n0_ := am (KeepBut.trans (by repeat (first | (with_reducible first | exact HK.out | apply KeepBut.set_ | apply keep_drewN | apply keep_drew | apply keep_alloc) | exact HK.out)) hk (.inl rfl)); have n1_ := am (hb); have n2_ := am (hi); clear HK; clear HB; clear HI0; have HK := n0_; have HB := n1_; have HI0 := n2_; clear n0_ n1_ n2_; (try clear hb); (try clear hb2); (try clear hk); (try clear hi)) | ((with_reducible refine gate_callee (f := 82) rfl ?_); refine goesL_ (some 6) rfl rfl Try.func82 (by kernel_rfl) rfl #[.pointer (some ⟨g, 0, none⟩), .int .i64 3] rfl (by (try simp only [mta, mco, mni]); first | done | rfl | (simp only [lnd, lnt]; rfl)) ?_; (with_reducible refine (spec_l00Src_pick.calls g s0_0 t200 t201 3 t202 t203 t204 w0 _ ?side1 ?side2 A4.out).mono ?_); (case side1 => repeat (first | (with_reducible first | exact HI0.out | apply IsS139.alloc | apply IsS139.drewN | apply IsS139.drew | apply IsS139.set_1 | apply IsS139.set_2) | exact HI0.out)); (case side2 => repeat (first | (with_reducible first | exact HB.out | apply bal | apply pdn | apply bd1 | refine bst ?_ (IsS139.ge HI0.out)) | exact HB.out)); rintro e w9 ⟨rfl, hi, hb, hk⟩; refine ⟨_, rfl, ?_⟩; have n0_ := am (KeepBut.trans (by repeat (first | (with_reducible first | exact HK.out | apply KeepBut.set_ | apply keep_drewN | apply keep_drew | apply keep_alloc) | exact HK.out)) hk (.inl rfl)); have n1_ := am (hb); have n2_ := am (hi); clear HK; clear HB; clear HI0; have HK := n0_; have HB := n1_; have HI0 := n2_; clear n0_ n1_ n2_; (try clear hb); (try clear hb2); (try clear hk); (try clear hi)) | ((with_reducible refine gate_dst (N := 8) rfl ?_); refine Kd.R_make (Kd.int .u8) _ 5 rfl (N := 8) rfl 48 _ _ rfl ji5 rfl rfl Try.underlying48 (.int .u8 0) 1 info5 rfl (by decide) (by omega) 0 (ok := fun _ => True) (okp := fun _ => True) rfl (fun _ hk => hk) trivial (of_decide_eq_true (by first | (with_reducible assumption) | assumption)) (Nat.le_trans (Nat.mul_le_mul_right _ (of_decide_eq_true (by first | (with_reducible assumption) | assumption) : ji5.toNat ≤ 281474976710656)) (by omega)) (Below.refl _ _) (Nat.le_refl _) ?_; intro v206 w10 ho11 hb hg_ hnew_; clear hg_ hnew_; (first | rw [← Ny205.out] at ho11 | (simp only [Int.reduceToNat] at ho11; rw [← Ny205.out] at ho11)); have n0_ := am (Kd.R_lower ho11 (keep_size (w := w) (g := g) (row := none) (by repeat (first | (with_reducible first | exact HK.out | apply KeepBut.set_ | apply keep_drewN | apply keep_drew | apply keep_alloc) | exact HK.out)))); have n1_ := am (IsS139.below (by repeat (first | (with_reducible first | exact HI0.out | apply IsS139.alloc | apply IsS139.drewN | apply IsS139.drew | apply IsS139.set_1 | apply IsS139.set_2) | exact HI0.out)) hb); have n2_ := am (KeepBut.trans (by repeat (first | (with_reducible first | exact HK.out | apply KeepBut.set_ | apply keep_drewN | apply keep_drew | apply keep_alloc) | exact HK.out)) (KeepBut.of_below hb g none) (.inl rfl)); have n3_ := am (below_step (by repeat (first | (with_reducible first | exact HB.out | apply bal | apply pdn | apply bd1 | refine bst ?_ (IsS139.ge HI0.out)) | exact HB.out)) hb); clear HI0; clear HK; clear HB; have HO207 := n0_; have HI0 := n1_; have HK := n2_; have HB := n3_; clear n0_ n1_ n2_ n3_; clear hb ho11; have hcv12 := own_string (P := Try.prog) Try.underlying48 Try.underlying5 Try.underlying9 (Kd.own_of_R HO207.out)))
    go_ret
    exact ⟨by first | rfl | (simp [errW_none, errW_some] <;> rfl) | (simp only [← hji5]; first | rfl | (simp [errW_none, errW_some] <;> rfl)) | (simp [*, errW_none, errW_some] <;> rfl), by repeat (first | (with_reducible first | exact HI0.out | apply IsS139.alloc | apply IsS139.drewN | apply IsS139.drew | apply IsS139.set_1 | apply IsS139.set_2) | exact HI0.out), by repeat (first | (with_reducible first | exact HB.out | apply bal | apply pdn | apply bd1 | refine bst ?_ (IsS139.ge HI0.out)) | exact HB.out), by repeat (first | (with_reducible first | exact HK.out | apply KeepBut.set_ | apply keep_drewN | apply keep_drew | apply keep_alloc) | exact HK.out)⟩
   ·rw [if_neg c7] at H
    exact absurd H (by simp)
  ·rw [if_neg c6] at H
   exact absurd H (by simp)
 ·replace c3 := Bool.eq_false_iff.mpr c3
  subst c3
  have H1 : ((spec_l00Src_word.f k s0_0 t200 t201 9).bind fun bt208 => (some (bt208.1, bt208.2.1, bt208.2.2))) = some (r1, r2, r3) := by rw [if_neg (show ¬ (false = true) by decide)] at H; exact H
  clear H
  have H := H1
  clear H1
  replace H := Option.bind_eq_some_iff.mp H
  obtain ⟨⟨t208, t209, t210⟩, A130, H⟩ := H
  replace H : (some (t208, t209, t210)) = some (r1, r2, r3) := H
  have A13 := am A130
  clear A130
  simp only [Option.some.injEq, Prod.mk.injEq] at H
  obtain ⟨rfl, rfl, rfl⟩ := H
  go_enter Try.func100, Try.ntmps100
  go_wp2_with (first | ((with_reducible refine gate_callee (f := 81) rfl ?_); refine goesL_ (some 4) rfl rfl Try.func81 (by kernel_rfl) rfl #[.pointer (some ⟨g, 0, none⟩), .int .i64 12] rfl (by (try simp only [mta, mco, mni]); first | done | rfl | (simp only [lnd, lnt]; rfl)) ?_; (with_reducible refine (spec_l00Src_one.calls g s0_0 s0_1 s0_2 12 false t200 t201 w0 _ ?side1 ?side2 A2.out).mono ?_); (case side1 => repeat (first | (with_reducible first | exact HI0.out | apply IsS139.alloc | apply IsS139.drewN | apply IsS139.drew | apply IsS139.set_1 | apply IsS139.set_2) | exact HI0.out)); (case side2 => repeat (first | (with_reducible first | exact HB.out | apply bal | apply pdn | apply bd1 | refine bst ?_ (IsS139.ge HI0.out)) | exact HB.out)); rintro e w14 ⟨rfl, hi, hb, hk⟩; refine ⟨_, rfl, ?_⟩; have n0_ := am (KeepBut.trans (by repeat (first | (with_reducible first | exact HK.out | apply KeepBut.set_ | apply keep_drewN | apply keep_drew | apply keep_alloc) | exact HK.out)) hk (.inl rfl)); have n1_ := am (hb); have n2_ := am (hi); clear HK; clear HB; clear HI0; have HK := n0_; have HB := n1_; have HI0 := n2_; clear n0_ n1_ n2_; (try clear hb); (try clear hb2); (try clear hk); (try clear hi)) | ((with_reducible refine gate_callee (f := 125) rfl ?_); refine goesL_ (some 11) rfl rfl Try.func125 (by kernel_rfl) rfl #[.pointer (some ⟨g, 0, none⟩), .int .i64 9] rfl (by (try simp only [mta, mco, mni]); first | done | rfl | (simp only [lnd, lnt]; rfl)) ?_; (with_reducible refine (spec_l00Src_word.calls k g s0_0 t200 t201 9 t208 t209 t210 w0 _ ?side1 ?side2 A13.out).mono ?_); (case side1 => repeat (first | (with_reducible first | exact HI0.out | apply IsS139.alloc | apply IsS139.drewN | apply IsS139.drew | apply IsS139.set_1 | apply IsS139.set_2) | exact HI0.out)); (case side2 => repeat (first | (with_reducible first | exact HB.out | apply bal | apply pdn | apply bd1 | refine bst ?_ (IsS139.ge HI0.out)) | exact HB.out)); rintro e w15 ⟨rfl, hi, hb, hk⟩; refine ⟨_, rfl, ?_⟩; have n0_ := am (KeepBut.trans (by repeat (first | (with_reducible first | exact HK.out | apply KeepBut.set_ | apply keep_drewN | apply keep_drew | apply keep_alloc) | exact HK.out)) hk (.inl rfl)); have n1_ := am (hb); have n2_ := am (hi); clear HK; clear HB; clear HI0; have HK := n0_; have HB := n1_; have HI0 := n2_; clear n0_ n1_ n2_; (try clear hb); (try clear hb2); (try clear hk); (try clear hi)))
  go_ret
  exact ⟨by first | rfl | (simp [errW_none, errW_some] <;> rfl) | (simp [*, errW_none, errW_some] <;> rfl), by repeat (first | (with_reducible first | exact HI0.out | apply IsS139.alloc | apply IsS139.drewN | apply IsS139.drew | apply IsS139.set_1 | apply IsS139.set_2) | exact HI0.out), by repeat (first | (with_reducible first | exact HB.out | apply bal | apply pdn | apply bd1 | refine bst ?_ (IsS139.ge HI0.out)) | exact HB.out), by repeat (first | (with_reducible first | exact HK.out | apply KeepBut.set_ | apply keep_drewN | apply keep_drew | apply keep_alloc) | exact HK.out)⟩

/-! ### spec_l00Src_among: function 124 -/
def spec_l00Src_among.f (s0_0 : List Int) (s0_1 : Int) (s0_2 : Int) (l1 : List Int) : Option (Int × Int × Int) := (spec_l00Src_pick.f s0_0 s0_1 s0_2 (l1.length : Int)).bind fun bt211 => (if 0 ≤ bt211.1 then (if bt211.1 < (l1.length : Int) then (some (rd l1 bt211.1, bt211.2.1, bt211.2.2)) else (none)) else (none))
set_option maxHeartbeats 8000000 in
set_option maxRecDepth 100000 in
theorem spec_l00Src_among.calls (g : Nat) (s0_0 : List Int) (s0_1 : Int) (s0_2 : Int) (A1 : Option Addr) (c1 : Nat) (l1 : List Int) (r1 : Int) (r2 : Int) (r3 : Int) (w0 w : World) (hI : IsS139 w0 w g s0_0 s0_1 s0_2) (hB : Below w0.heap.size w0 w) (hr1 : Kd.C (Kd.int .i64) w A1 l1.length l1) (hc1 : l1.length ≤ c1) (hf1 : ∀ ad, A1 = some ad → 0 < l1.length → ad.block ≠ g) (h : spec_l00Src_among.f s0_0 s0_1 s0_2 l1 = some (r1, r2, r3)) :
  Calls Try.prog 124 #[.pointer (some ⟨g, 0, none⟩), .slice A1 l1.length c1] w fun e w' => e = .returned (.int .i64 r1) ∧ IsS139 w0 w' g s0_0 r2 r3 ∧ Below w0.heap.size w0 w' ∧ KeepBut w w' g none := by
 have HR1 := am hr1
 have HC1 := am hc1
 clear hr1 hc1
 have HI0 := am hI
 have HK := am (KeepBut.refl w g none)
 have HL := am hB.size
 clear hI
 have HW0 := am hB.size
 have HB := am hB
 clear hB
 have H : ((spec_l00Src_pick.f s0_0 s0_1 s0_2 (l1.length : Int)).bind fun bt211 => (if 0 ≤ bt211.1 then (if bt211.1 < (l1.length : Int) then (some (rd l1 bt211.1, bt211.2.1, bt211.2.2)) else (none)) else (none))) = some (r1, r2, r3) := h
 clear h
 replace H := Option.bind_eq_some_iff.mp H
 obtain ⟨⟨t211, t212, t213⟩, A30, H⟩ := H
 replace H : (if 0 ≤ t211 then (if t211 < (l1.length : Int) then (some (rd l1 t211, t212, t213)) else (none)) else (none)) = some (r1, r2, r3) := H
 have A3 := am A30
 clear A30
 by_cases c4 : 0 ≤ t211
 ·rw [if_pos c4] at H
  have c4b0 : decide (0 ≤ t211) = true := decide_eq_true c4
  clear c4
  by_cases c5 : t211 < (l1.length : Int)
  ·rw [if_pos c5] at H
   have c5b0 : decide (t211 < (l1.length : Int)) = true := decide_eq_true c5
   clear c5
   simp only [Option.some.injEq, Prod.mk.injEq] at H
   obtain ⟨rfl, rfl, rfl⟩ := H
   go_enter Try.func124, Try.ntmps124
   go_wp2_with (first | ((with_reducible refine gate_callee (f := 82) rfl ?_); refine goesL_ (some 9) rfl rfl Try.func82 (by kernel_rfl) rfl #[.pointer (some ⟨g, 0, none⟩), .int .i64 (l1.length : Int)] rfl (by (try simp only [mta, mco, mni]); first | done | rfl | (simp only [lnd, lnt]; rfl)) ?_; (with_reducible refine (spec_l00Src_pick.calls g s0_0 s0_1 s0_2 (l1.length : Int) t211 t212 t213 w0 _ ?side1 ?side2 A3.out).mono ?_); (case side1 => repeat (first | (with_reducible first | exact HI0.out | apply IsS139.alloc | apply IsS139.drewN | apply IsS139.drew | apply IsS139.set_1 | apply IsS139.set_2) | exact HI0.out)); (case side2 => repeat (first | (with_reducible first | exact HB.out | apply bal | apply pdn | apply bd1 | refine bst ?_ (IsS139.ge HI0.out)) | exact HB.out)); rintro e w6 ⟨rfl, hi, hb, hk⟩; refine ⟨_, rfl, ?_⟩; have n0_ := am (KeepBut.trans (by repeat (first | (with_reducible first | exact HK.out | apply KeepBut.set_ | apply keep_drewN | apply keep_drew | apply keep_alloc) | exact HK.out)) hk (.inl rfl)); have n1_ := am (hb); have n2_ := am (hi); clear HK; clear HB; clear HI0; have HK := n0_; have HB := n1_; have HI0 := n2_; clear n0_ n1_ n2_; (try clear hb); (try clear hb2); (try clear hk); (try clear hi); have p214 : 0 ≤ (t211 : Int) := of_decide_eq_true (by first | (with_reducible assumption) | assumption); have q214 : t211 < (l1.length : Int) := of_decide_eq_true (by first | (with_reducible assumption) | assumption); obtain ⟨ad214, e214, hx214_0⟩ := Kd.at_int HR1.out t211 p214 q214; cases e214; replace hx214_0 := keep_cell HK.out hx214_0 (by first | (rw [add_block]; exact hf1 _ rfl (by omega)) | exact hf1 _ rfl (by omega) | exact hf1 ad214 rfl (by omega)); replace p214 := eq_true p214; replace q214 := eq_true q214))
   go_ret
   exact ⟨by first | rfl | (simp [errW_none, errW_some] <;> rfl) | (simp [*, errW_none, errW_some] <;> rfl), by repeat (first | (with_reducible first | exact HI0.out | apply IsS139.alloc | apply IsS139.drewN | apply IsS139.drew | apply IsS139.set_1 | apply IsS139.set_2) | exact HI0.out), by repeat (first | (with_reducible first | exact HB.out | apply bal | apply pdn | apply bd1 | refine bst ?_ (IsS139.ge HI0.out)) | exact HB.out), by repeat (first | (with_reducible first | exact HK.out | apply KeepBut.set_ | apply keep_drewN | apply keep_drew | apply keep_alloc) | exact HK.out)⟩
  ·rw [if_neg c5] at H
   exact absurd H (by simp)
 ·rw [if_neg c4] at H
  exact absurd H (by simp)

end Go.Proofs.Ythphhklbliambaa.MFnOps
