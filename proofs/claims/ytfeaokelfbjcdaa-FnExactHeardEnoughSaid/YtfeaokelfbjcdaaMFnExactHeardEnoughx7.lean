-- Written by a program of this session (wip/tools/myprint.py) over the kit's print: it is not the kit's print.
import Derived.Test.YtfeaokelfbjcdaaExtra
import Derived.Test.YtfeaokelfbjcdaaMFnExactHeardEnoughx0
import Derived.Test.YtfeaokelfbjcdaaMFnExactHeardEnoughx1
import Derived.Test.YtfeaokelfbjcdaaMFnExactHeardEnoughx2
import Derived.Test.YtfeaokelfbjcdaaMFnExactHeardEnoughx4
import Derived.Test.YtfeaokelfbjcdaaMFnExactHeardEnoughx5
import Derived.Test.YtfeaokelfbjcdaaMFnExactHeardEnoughx6
namespace Go.Proofs.Ytfeaokelfbjcdaa.MFnExactHeardEnough
open Go.RowKit Go.Proofs.YtfeaokelfbjcdaaW.PrintWords Go.Proofs.YtfeaokelfbjcdaaW.PrintLast Go.Proofs.YtfeaokelfbjcdaaW.PrintMore
attribute [local go_sem] max2_int min2_int max_two min_two max_three min_three max_four min_four   -- for this text's walks alone
set_option linter.unusedVariables false
set_option linter.unusedSimpArgs false

/-! ### impl_heardEnough: function 67 -/
set_option maxHeartbeats 4000000 in
set_option maxRecDepth 100000 in
theorem impl_heardEnough.c1.index (b1 : Addr) (p : S43 → Bool) (A0 : Option Addr) (c0 : Nat) (l0 : List S43) (w : World) (hr0 : Kd.C k43 w A0 l0.length l0)
    (hp : ∀ (W : World) (x : S43) (B2 : Option Addr) (d2 : Nat), Below w.heap.size w W → x ∈ l0 → x.f2.length ≤ d2 → (Kd.int .i64).C W B2 x.f2.length x.f2 → Calls Try.prog 88 #[.agg #[.int .i64 x.f0, .int .i64 x.f1, .slice B2 x.f2.length d2, .bool x.f3], .pointer (some b1)] W fun e w' => e = .returned (.bool (p x)) ∧ Below w.heap.size w w') :
    Calls Try.prog 109 #[.slice A0 l0.length c0, .func (.func 88) #[] #[.pointer (some b1)]] w fun e w' => e = .returned (.int .i64 (idxP p l0 0)) ∧ Below w.heap.size w w' := by
  have HR0 := Aside0.mk hr0
  have HP := Aside0.mk hp
  have hm : l0.length ≤ 9223372036854775807 := hr0.2.1
  clear hr0 hp
  go_enter Try.func109, Try.ntmps109
  go_wp2
  go_loopg [5, 8] l0.length (fun gg _ s8 wr => ∃ kk : Nat, kk ≤ l0.length ∧ l0.length - kk ≤ gg ∧ s8 = .int .i64 kk ∧ Aside0 (Below w.heap.size w wr) ∧ Aside0 (idxP p l0 0 = idxP p (l0.drop kk) kk))
  case atStart => exact ⟨0, Nat.zero_le _, by omega, rfl, ⟨Below.refl _ w⟩, ⟨rfl⟩⟩
  case round =>
    obtain ⟨kk, hkk, hg, rfl, BW, AI⟩ := hrel
    by_cases hlt : kk < l0.length
    · have hltz : (kk : Int) < (l0.length : Int) := by omega
      obtain ⟨ad, B2, d2, e, hx0, hx1, hx2, hx3, hl2, hi2⟩ := at_T43 HR0.out (kk : Int) (by omega) hltz
      cases e
      rw [Int.toNat_natCast] at hx0
      replace hx0 := (BW.out.cell (World.block_lt_of_cell? w _ hx0)).trans hx0
      rw [Int.toNat_natCast] at hx1
      replace hx1 := (BW.out.cell (World.block_lt_of_cell? w _ hx1)).trans hx1
      rw [Int.toNat_natCast] at hx2
      replace hx2 := (BW.out.cell (World.block_lt_of_cell? w _ hx2)).trans hx2
      rw [Int.toNat_natCast] at hx3
      replace hx3 := (BW.out.cell (World.block_lt_of_cell? w _ hx3)).trans hx3
      have HE : Aside0 (rd_T43 l0 (kk : Int) = l0[kk]) := ⟨by simp [rd_T43, List.getD_eq_getElem?_getD, List.getElem?_eq_getElem hlt]⟩
      have hcall := HP.out wr (rd_T43 l0 (kk : Int)) B2 d2 BW.out (by rw [HE.out]; exact List.getElem_mem hlt) hl2 (Kd.C_below hi2 BW.out)
      clear hl2 hi2
      have HD := Aside0.mk (idxP_drop p l0 kk hlt)
      generalize rd_T43 l0 (kk : Int) = y at hx0 hx1 hx2 hx3 hcall HE
      cases hq : p y with
      | true =>
        rw [hq] at hcall
        have HQ := Aside0.mk hq
        clear hq
        go_wp2_with (go_at_call 88; refine hcall.mono ?_; rintro e w' ⟨rfl, hb'⟩)
        go_ret
        refine ⟨?_, hb'⟩
        rw [AI.out, HD.out, ← HE.out, if_pos HQ.out]
        rfl
      | false =>
        rw [hq] at hcall
        have HQ := Aside0.mk hq
        clear hq
        go_wp2_with (go_at_call 88; refine hcall.mono ?_; rintro e w' ⟨rfl, hb'⟩)
        go_roundg (l0.length - (kk + 1))
        case measure => omega
        case rel => exact ⟨kk + 1, by omega, by omega, by go_num, ⟨hb'⟩, ⟨by rw [AI.out, HD.out, ← HE.out, HQ.out]; rfl⟩⟩
    · have hltz : ¬ (kk : Int) < (l0.length : Int) := by omega
      go_wp2
      go_ret
      refine ⟨?_, BW.out⟩
      rw [AI.out, List.drop_of_length_le (by omega)]
      rfl
set_option maxHeartbeats 2000000 in
theorem impl_heardEnough.c1.contains (b1 : Addr) (p : S43 → Bool) (A0 : Option Addr) (c0 : Nat) (l0 : List S43) (w : World) (hr0 : Kd.C k43 w A0 l0.length l0)
    (hp : ∀ (W : World) (x : S43) (B2 : Option Addr) (d2 : Nat), Below w.heap.size w W → x ∈ l0 → x.f2.length ≤ d2 → (Kd.int .i64).C W B2 x.f2.length x.f2 → Calls Try.prog 88 #[.agg #[.int .i64 x.f0, .int .i64 x.f1, .slice B2 x.f2.length d2, .bool x.f3], .pointer (some b1)] W fun e w' => e = .returned (.bool (p x)) ∧ Below w.heap.size w w') :
    Calls Try.prog 87 #[.slice A0 l0.length c0, .func (.func 88) #[] #[.pointer (some b1)]] w fun e w' => e = .returned (.bool (l0.any p)) ∧ Below w.heap.size w w' := by
  have HI := impl_heardEnough.c1.index b1 p A0 c0 l0 w hr0 hp
  have HQ := Aside0.mk (idxP_dec p l0)
  clear hr0 hp
  generalize idxP p l0 0 = q at HI HQ
  generalize l0.any p = b at HQ
  go_enter Try.func87, Try.ntmps87
  go_wp2_with (go_at_call 109; refine HI.mono ?_; rintro e w' ⟨rfl, hb⟩)
  go_ret
  exact ⟨by rw [← HQ.out]; rfl, hb⟩
set_option maxHeartbeats 4000000 in
set_option maxRecDepth 100000 in
theorem impl_heardEnough.c2.index (b1 b2 b3 : Addr) (p : S43 → Bool) (A0 : Option Addr) (c0 : Nat) (l0 : List S43) (w : World) (hr0 : Kd.C k43 w A0 l0.length l0)
    (hp : ∀ (W : World) (x : S43) (B2 : Option Addr) (d2 : Nat), Below w.heap.size w W → x ∈ l0 → x.f2.length ≤ d2 → (Kd.int .i64).C W B2 x.f2.length x.f2 → Calls Try.prog 89 #[.agg #[.int .i64 x.f0, .int .i64 x.f1, .slice B2 x.f2.length d2, .bool x.f3], .pointer (some b1), .pointer (some b2), .pointer (some b3)] W fun e w' => e = .returned (.bool (p x)) ∧ Below w.heap.size w w') :
    Calls Try.prog 109 #[.slice A0 l0.length c0, .func (.func 89) #[] #[.pointer (some b1), .pointer (some b2), .pointer (some b3)]] w fun e w' => e = .returned (.int .i64 (idxP p l0 0)) ∧ Below w.heap.size w w' := by
  have HR0 := Aside0.mk hr0
  have HP := Aside0.mk hp
  have hm : l0.length ≤ 9223372036854775807 := hr0.2.1
  clear hr0 hp
  go_enter Try.func109, Try.ntmps109
  go_wp2
  go_loopg [5, 8] l0.length (fun gg _ s8 wr => ∃ kk : Nat, kk ≤ l0.length ∧ l0.length - kk ≤ gg ∧ s8 = .int .i64 kk ∧ Aside0 (Below w.heap.size w wr) ∧ Aside0 (idxP p l0 0 = idxP p (l0.drop kk) kk))
  case atStart => exact ⟨0, Nat.zero_le _, by omega, rfl, ⟨Below.refl _ w⟩, ⟨rfl⟩⟩
  case round =>
    obtain ⟨kk, hkk, hg, rfl, BW, AI⟩ := hrel
    by_cases hlt : kk < l0.length
    · have hltz : (kk : Int) < (l0.length : Int) := by omega
      obtain ⟨ad, B2, d2, e, hx0, hx1, hx2, hx3, hl2, hi2⟩ := at_T43 HR0.out (kk : Int) (by omega) hltz
      cases e
      rw [Int.toNat_natCast] at hx0
      replace hx0 := (BW.out.cell (World.block_lt_of_cell? w _ hx0)).trans hx0
      rw [Int.toNat_natCast] at hx1
      replace hx1 := (BW.out.cell (World.block_lt_of_cell? w _ hx1)).trans hx1
      rw [Int.toNat_natCast] at hx2
      replace hx2 := (BW.out.cell (World.block_lt_of_cell? w _ hx2)).trans hx2
      rw [Int.toNat_natCast] at hx3
      replace hx3 := (BW.out.cell (World.block_lt_of_cell? w _ hx3)).trans hx3
      have HE : Aside0 (rd_T43 l0 (kk : Int) = l0[kk]) := ⟨by simp [rd_T43, List.getD_eq_getElem?_getD, List.getElem?_eq_getElem hlt]⟩
      have hcall := HP.out wr (rd_T43 l0 (kk : Int)) B2 d2 BW.out (by rw [HE.out]; exact List.getElem_mem hlt) hl2 (Kd.C_below hi2 BW.out)
      clear hl2 hi2
      have HD := Aside0.mk (idxP_drop p l0 kk hlt)
      generalize rd_T43 l0 (kk : Int) = y at hx0 hx1 hx2 hx3 hcall HE
      cases hq : p y with
      | true =>
        rw [hq] at hcall
        have HQ := Aside0.mk hq
        clear hq
        go_wp2_with (go_at_call 89; refine hcall.mono ?_; rintro e w' ⟨rfl, hb'⟩)
        go_ret
        refine ⟨?_, hb'⟩
        rw [AI.out, HD.out, ← HE.out, if_pos HQ.out]
        rfl
      | false =>
        rw [hq] at hcall
        have HQ := Aside0.mk hq
        clear hq
        go_wp2_with (go_at_call 89; refine hcall.mono ?_; rintro e w' ⟨rfl, hb'⟩)
        go_roundg (l0.length - (kk + 1))
        case measure => omega
        case rel => exact ⟨kk + 1, by omega, by omega, by go_num, ⟨hb'⟩, ⟨by rw [AI.out, HD.out, ← HE.out, HQ.out]; rfl⟩⟩
    · have hltz : ¬ (kk : Int) < (l0.length : Int) := by omega
      go_wp2
      go_ret
      refine ⟨?_, BW.out⟩
      rw [AI.out, List.drop_of_length_le (by omega)]
      rfl
set_option maxHeartbeats 2000000 in
theorem impl_heardEnough.c2.contains (b1 b2 b3 : Addr) (p : S43 → Bool) (A0 : Option Addr) (c0 : Nat) (l0 : List S43) (w : World) (hr0 : Kd.C k43 w A0 l0.length l0)
    (hp : ∀ (W : World) (x : S43) (B2 : Option Addr) (d2 : Nat), Below w.heap.size w W → x ∈ l0 → x.f2.length ≤ d2 → (Kd.int .i64).C W B2 x.f2.length x.f2 → Calls Try.prog 89 #[.agg #[.int .i64 x.f0, .int .i64 x.f1, .slice B2 x.f2.length d2, .bool x.f3], .pointer (some b1), .pointer (some b2), .pointer (some b3)] W fun e w' => e = .returned (.bool (p x)) ∧ Below w.heap.size w w') :
    Calls Try.prog 87 #[.slice A0 l0.length c0, .func (.func 89) #[] #[.pointer (some b1), .pointer (some b2), .pointer (some b3)]] w fun e w' => e = .returned (.bool (l0.any p)) ∧ Below w.heap.size w w' := by
  have HI := impl_heardEnough.c2.index b1 b2 b3 p A0 c0 l0 w hr0 hp
  have HQ := Aside0.mk (idxP_dec p l0)
  clear hr0 hp
  generalize idxP p l0 0 = q at HI HQ
  generalize l0.any p = b at HQ
  go_enter Try.func87, Try.ntmps87
  go_wp2_with (go_at_call 109; refine HI.mono ?_; rintro e w' ⟨rfl, hb⟩)
  go_ret
  exact ⟨by rw [← HQ.out]; rfl, hb⟩
def impl_heardEnough.need (x : S43) (s : Int) : Bool := (x.f3 && decide (x.f0 ≥ s)) || (x.f0 == s)
/-- Which of an interval's nodes were heard. -/
def impl_heardEnough.hl (x : S43) (h : List Int) : List Int := (impl_heardOf.f x.f2 h).getD []
def impl_heardEnough.few (k s : Int) (h : List Int) (x : S43) : Bool := impl_heardEnough.need x s && decide (((impl_heardEnough.hl x h).length : Int) < k)
def impl_heardEnough.f (l0 : List S43) (a1 : Int) (a2 : Int) (l3 : List Int) : Option Bool :=
  if (l0.all fun x => (impl_heardOf.f x.f2 l3).isSome) = true then some (!(decide (0 < a2) && !l0.any fun x => (x.f0 == a2)) && !l0.any (impl_heardEnough.few a1 a2 l3)) else none
theorem impl_heardEnough.needs_eq (x : S43) (s : Int) : impl_Interval_needs.f x.f0 x.f1 x.f2 x.f3 s = some (impl_heardEnough.need x s) := by
  unfold impl_Interval_needs.f impl_heardEnough.need
  cases x.f3 <;> by_cases h : x.f0 ≥ s <;> simp [h]
theorem impl_heardEnough.newc (W : World) (v : Value) (t : TypeId) : (W.alloc (.cells #[v] t)).cell? ⟨W.heap.size, 0, none⟩ = some v := by simp
set_option maxHeartbeats 2000000 in
theorem impl_heardEnough.pred1 (x : S43) (B : Option Addr) (d : Nat) (b : Addr) (s : Int) (W : World) (hc : W.cell? b = some (.int .i64 s)) :
    Calls Try.prog 88 #[.agg #[.int .i64 x.f0, .int .i64 x.f1, .slice B x.f2.length d, .bool x.f3], .pointer (some b)] W fun e w' => e = .returned (.bool (x.f0 == s)) ∧ Below W.heap.size W w' := by
  have hc' : (W.alloc (.cells #[.int .i64 x.f0, .int .i64 x.f1, .slice B x.f2.length d, .bool x.f3] 43)).cell? b = some (.int .i64 s) := (((Below.refl W.heap.size W).alloc (Nat.le_refl _) _).cell (World.block_lt_of_cell? W _ hc)).trans hc
  have HB := Aside0.mk ((Below.refl W.heap.size W).alloc (Nat.le_refl _) (.cells #[.int .i64 x.f0, .int .i64 x.f1, .slice B x.f2.length d, .bool x.f3] 43))
  clear hc
  go_enter Try.func88, Try.ntmps88
  go_wp2
  go_ret
  exact ⟨rfl, by repeat (first | exact HB.out | apply pw_below_drewN)⟩
set_option maxHeartbeats 4000000 in
set_option maxRecDepth 100000 in
theorem impl_heardEnough.pred2 (x : S43) (B : Option Addr) (d : Nat) (hd : x.f2.length ≤ d) (b1 b2 b3 : Addr) (k s : Int) (A : Option Addr) (c : Nat) (h : List Int) (hc : h.length ≤ c) (W : World)
    (hx : Kd.C (Kd.int .i64) W B x.f2.length x.f2) (hh : Kd.C (Kd.int .i64) W A h.length h)
    (h1 : W.cell? b1 = some (.int .i64 s)) (h2 : W.cell? b2 = some (.slice A h.length c)) (h3 : W.cell? b3 = some (.int .i64 k)) (hs : (impl_heardOf.f x.f2 h).isSome = true) :
    Calls Try.prog 89 #[.agg #[.int .i64 x.f0, .int .i64 x.f1, .slice B x.f2.length d, .bool x.f3], .pointer (some b1), .pointer (some b2), .pointer (some b3)] W fun e w' => e = .returned (.bool (impl_heardEnough.few k s h x)) ∧ Below W.heap.size W w' := by
  obtain ⟨W1, hW1⟩ : ∃ W1, W1 = W.alloc (.cells #[.int .i64 x.f0, .int .i64 x.f1, .slice B x.f2.length d, .bool x.f3] 43) := ⟨_, rfl⟩
  have hB : Below W.heap.size W W1 := by rw [hW1]; exact (Below.refl _ _).alloc (Nat.le_refl _) _
  have HS : Aside0 (∀ w', Below W1.heap.size W1 w' → (w'.cell? ⟨W.heap.size, 0, none⟩ = some (.int .i64 x.f0) ∧ w'.cell? ⟨W.heap.size, 1, none⟩ = some (.int .i64 x.f1) ∧ w'.cell? ⟨W.heap.size, 2, none⟩ = some (.slice B x.f2.length d) ∧ w'.cell? ⟨W.heap.size, 3, none⟩ = some (.bool x.f3) ∧ w'.cell? b1 = some (.int .i64 s) ∧ w'.cell? b2 = some (.slice A h.length c) ∧ w'.cell? b3 = some (.int .i64 k) ∧ Below W1.heap.size W1 w')) := ⟨fun w' hb => by
    have e : ∀ (p : Addr) (v : Value), W1.cell? p = some v → w'.cell? p = some v := fun p v hp => (hb.cell (World.block_lt_of_cell? W1 p hp)).trans hp
    have e2 : ∀ (p : Addr) (v : Value), W.cell? p = some v → W1.cell? p = some v := fun p v hp => (hB.cell (World.block_lt_of_cell? W p hp)).trans hp
    exact ⟨e _ _ (by rw [hW1]; simp), e _ _ (by rw [hW1]; simp), e _ _ (by rw [hW1]; simp), e _ _ (by rw [hW1]; simp), e _ _ (e2 _ _ h1), e _ _ (e2 _ _ h2), e _ _ (e2 _ _ h3), hb⟩⟩
  obtain ⟨r, hr⟩ := Option.isSome_iff_exists.1 hs
  have HF : Aside0 (impl_heardEnough.few k s h x = (impl_heardEnough.need x s && decide ((r.length : Int) < k))) := ⟨by unfold impl_heardEnough.few impl_heardEnough.hl; rw [hr]; rfl⟩
  have HC : Aside0 (∀ w', Below W1.heap.size W1 w' → Calls Try.prog 64 #[.slice B x.f2.length d, .slice A h.length c] w' fun e w2 => ∃ (A3 : Option Addr) (c3 : Nat), e = .returned (.slice A3 r.length c3) ∧ Below W1.heap.size W1 w2) := ⟨fun w' hb => by
    refine (impl_heardOf.calls B d x.f2 A c h r w' (Kd.C_below (Kd.C_below hx hB) hb) hd (Kd.C_below (Kd.C_below hh hB) hb) hc hr).mono ?_
    rintro e w2 ⟨v, rfl, hR, hb2⟩
    obtain ⟨A3, c3, rfl, _⟩ := Kd.R_reads hR
    exact ⟨A3, c3, rfl, hb.trans (hb2.mono hb.size)⟩⟩
  have HN : Aside0 (∀ w', Below W1.heap.size W1 w' → Calls Try.prog 90 #[.agg #[.int .i64 x.f0, .int .i64 x.f1, .slice B x.f2.length d, .bool x.f3], .int .i64 s] w' fun e w2 => e = .returned (.bool (impl_heardEnough.need x s)) ∧ Below W1.heap.size W1 w2) := ⟨fun w' hb => by
    refine (impl_Interval_needs.calls x.f0 x.f1 B d x.f2 x.f3 s _ w' (Kd.C_below (Kd.C_below hx hB) hb) hd (impl_heardEnough.needs_eq x s)).mono ?_
    rintro e w2 ⟨rfl, hb2⟩
    exact ⟨rfl, hb.trans (hb2.mono hb.size)⟩⟩
  generalize impl_heardEnough.need x s = nb at HN HF
  have HB := Aside0.mk hB
  clear hB hx hh h1 h2 h3 hs hr hc hd
  subst hW1
  cases nb with
  | false =>
    go_enter Try.func89, Try.ntmps89
    go_wp2
    refine start_ (n := 13) (S := fun w' => w'.cell? ⟨W.heap.size, 0, none⟩ = some (.int .i64 x.f0) ∧ w'.cell? ⟨W.heap.size, 1, none⟩ = some (.int .i64 x.f1) ∧ w'.cell? ⟨W.heap.size, 2, none⟩ = some (.slice B x.f2.length d) ∧ w'.cell? ⟨W.heap.size, 3, none⟩ = some (.bool x.f3) ∧ w'.cell? b1 = some (.int .i64 s) ∧ w'.cell? b2 = some (.slice A h.length c) ∧ w'.cell? b3 = some (.int .i64 k) ∧ Below (W.alloc (.cells #[.int .i64 x.f0, .int .i64 x.f1, .slice B x.f2.length d, .bool x.f3] 43)).heap.size (W.alloc (.cells #[.int .i64 x.f0, .int .i64 x.f1, .slice B x.f2.length d, .bool x.f3] 43)) w') (ds := []) #[false, false, false, false, false, false, false, false, false, false, false, false, false] (by kernel_rfl) rfl rfl (HS.out _ (below_drew (Below.refl _ _))) (fun hHeld => ?_)
    refine take_ (i := 0) (N := some 6) (v := ?_) (a' := ?_) #[true, false, false, false, false, false, false, false, false, false, false, false, false] rfl rfl (by kernel_rfl) (fun _ _ _ h => h) (Or.inl ⟨by rfl, ?_⟩) hHeld ?_ ?_
    rotate_left
    · rintro w' ⟨s0, s1, s2, s3, s4, s5, s6, s7⟩
      go_simp
      with_reducible rfl
    rotate_left
    · simp only [Act.put, List.setIfInBounds_toArray, List.set_cons_zero, List.set_cons_succ, i64_w, i32_w]
      rfl
    refine take_ (i := 1) (N := some 7) (v := ?_) (a' := ?_) #[true, true, false, false, false, false, false, false, false, false, false, false, false] rfl rfl (by kernel_rfl) (fun _ _ _ h => h) (Or.inl ⟨by rfl, ?_⟩) hHeld ?_ ?_
    rotate_left
    · rintro w' ⟨s0, s1, s2, s3, s4, s5, s6, s7⟩
      go_simp
      with_reducible rfl
    rotate_left
    · simp only [Act.put, List.setIfInBounds_toArray, List.set_cons_zero, List.set_cons_succ, i64_w, i32_w]
      rfl
    refine one_ (i := 2) (N := some 8) #[true, true, true, false, false, false, false, false, false, false, false, false, false] rfl rfl (by kernel_rfl) (by decide) (fun K hK => ?_)
    refine goes_ Try.func90 (by kernel_rfl) rfl #[.agg #[.int .i64 x.f0, .int .i64 x.f1, .slice B x.f2.length d, .bool x.f3], .int .i64 s] (by rfl) rfl rfl (by (try simp only [List.map_toArray, List.map_cons, List.map_nil]); first | done | rfl) ?_
    refine (HN.out _ hHeld.2.2.2.2.2.2.2).mono ?_
    rintro e w2 ⟨rfl, hb2⟩
    refine ⟨_, rfl, ?_⟩
    refine hK.out _ _ (HS.out _ hb2) (fun hHeld => ?_)
    clear hK K
    refine norm_ (a' := ?_) ?_ ?_
    rotate_left
    · show Act.put _ (some 8) _ = _
      simp only [Act.put, List.setIfInBounds_toArray, List.set_cons_zero, List.set_cons_succ, i64_w, i32_w]
      rfl
    refine pure_ (i := 3) (N := some 9) (v := ?_) (a' := ?_) #[true, true, true, true, false, false, false, false, false, false, false, false, false] rfl rfl (by kernel_rfl) (fun _ _ _ h => h) (Or.inl ⟨by rfl, ?_⟩) ?_ ?_
    rotate_left
    · intro w'
      go_simp
      with_reducible rfl
    rotate_left
    · simp only [Act.put, List.setIfInBounds_toArray, List.set_cons_zero, List.set_cons_succ, i64_w, i32_w]
      rfl
    refine pure_ (i := 4) (N := some 10) (v := undef) (a' := ?_) #[true, true, true, true, true, false, false, false, false, false, false, false, false] rfl rfl (by kernel_rfl) (fun _ _ _ h => h) (Or.inr ⟨by rfl, rfl⟩) ?_ ?_
    rotate_left
    · simp only [Act.put, List.setIfInBounds_toArray, List.set_cons_zero, List.set_cons_succ, i64_w, i32_w]
      rfl
    refine pure_ (i := 5) (N := some 11) (v := undef) (a' := ?_) #[true, true, true, true, true, true, false, false, false, false, false, false, false] rfl rfl (by kernel_rfl) (fun _ _ _ h => h) (Or.inr ⟨by rfl, rfl⟩) ?_ ?_
    rotate_left
    · simp only [Act.put, List.setIfInBounds_toArray, List.set_cons_zero, List.set_cons_succ, i64_w, i32_w]
      rfl
    refine pure_ (i := 6) (N := some 12) (v := undef) (a' := ?_) #[true, true, true, true, true, true, true, false, false, false, false, false, false] rfl rfl (by kernel_rfl) (fun _ _ _ h => h) (Or.inr ⟨by rfl, rfl⟩) ?_ ?_
    rotate_left
    · simp only [Act.put, List.setIfInBounds_toArray, List.set_cons_zero, List.set_cons_succ, i64_w, i32_w]
      rfl
    refine pure_ (i := 7) (N := some 13) (v := undef) (a' := ?_) #[true, true, true, true, true, true, true, true, false, false, false, false, false] rfl rfl (by kernel_rfl) (fun _ _ _ h => h) (Or.inr ⟨by rfl, rfl⟩) ?_ ?_
    rotate_left
    · simp only [Act.put, List.setIfInBounds_toArray, List.set_cons_zero, List.set_cons_succ, i64_w, i32_w]
      rfl
    refine pure_ (i := 8) (N := some 14) (v := undef) (a' := ?_) #[true, true, true, true, true, true, true, true, true, false, false, false, false] rfl rfl (by kernel_rfl) (fun _ _ _ h => h) (Or.inr ⟨by rfl, rfl⟩) ?_ ?_
    rotate_left
    · simp only [Act.put, List.setIfInBounds_toArray, List.set_cons_zero, List.set_cons_succ, i64_w, i32_w]
      rfl
    refine pure_ (i := 9) (N := some 15) (v := undef) (a' := ?_) #[true, true, true, true, true, true, true, true, true, true, false, false, false] rfl rfl (by kernel_rfl) (fun _ _ _ h => h) (Or.inr ⟨by rfl, rfl⟩) ?_ ?_
    rotate_left
    · simp only [Act.put, List.setIfInBounds_toArray, List.set_cons_zero, List.set_cons_succ, i64_w, i32_w]
      rfl
    refine pure_ (i := 10) (N := some 16) (v := undef) (a' := ?_) #[true, true, true, true, true, true, true, true, true, true, true, false, false] rfl rfl (by kernel_rfl) (fun _ _ _ h => h) (Or.inr ⟨by rfl, rfl⟩) ?_ ?_
    rotate_left
    · simp only [Act.put, List.setIfInBounds_toArray, List.set_cons_zero, List.set_cons_succ, i64_w, i32_w]
      rfl
    refine pure_ (i := 11) (N := some 17) (v := ?_) (a' := ?_) #[true, true, true, true, true, true, true, true, true, true, true, true, false] rfl rfl (by kernel_rfl) (fun _ _ _ h => h) (Or.inl ⟨by rfl, ?_⟩) ?_ ?_
    rotate_left
    · intro w'
      go_simp
      with_reducible rfl
    rotate_left
    · simp only [Act.put, List.setIfInBounds_toArray, List.set_cons_zero, List.set_cons_succ, i64_w, i32_w]
      rfl
    refine pure_ (i := 12) (N := some 5) (v := ?_) (a' := ?_) #[true, true, true, true, true, true, true, true, true, true, true, true, true] rfl rfl (by kernel_rfl) (fun _ _ _ h => h) (Or.inl ⟨by rfl, ?_⟩) ?_ ?_
    rotate_left
    · intro w'
      go_simp
      with_reducible rfl
    rotate_left
    · simp only [Act.put, List.setIfInBounds_toArray, List.set_cons_zero, List.set_cons_succ, i64_w, i32_w]
      rfl
    refine done_ (by kernel_rfl) ?_
    go_wp2
    go_ret
    exact ⟨by rw [HF.out]; first | rfl | simp, HB.out.trans (hHeld.2.2.2.2.2.2.2.mono HB.out.size)⟩
  | true =>
    go_enter Try.func89, Try.ntmps89
    go_wp2
    refine start_ (n := 13) (S := fun w' => w'.cell? ⟨W.heap.size, 0, none⟩ = some (.int .i64 x.f0) ∧ w'.cell? ⟨W.heap.size, 1, none⟩ = some (.int .i64 x.f1) ∧ w'.cell? ⟨W.heap.size, 2, none⟩ = some (.slice B x.f2.length d) ∧ w'.cell? ⟨W.heap.size, 3, none⟩ = some (.bool x.f3) ∧ w'.cell? b1 = some (.int .i64 s) ∧ w'.cell? b2 = some (.slice A h.length c) ∧ w'.cell? b3 = some (.int .i64 k) ∧ Below (W.alloc (.cells #[.int .i64 x.f0, .int .i64 x.f1, .slice B x.f2.length d, .bool x.f3] 43)).heap.size (W.alloc (.cells #[.int .i64 x.f0, .int .i64 x.f1, .slice B x.f2.length d, .bool x.f3] 43)) w') (ds := []) #[false, false, false, false, false, false, false, false, false, false, false, false, false] (by kernel_rfl) rfl rfl (HS.out _ (below_drew (Below.refl _ _))) (fun hHeld => ?_)
    refine take_ (i := 0) (N := some 6) (v := ?_) (a' := ?_) #[true, false, false, false, false, false, false, false, false, false, false, false, false] rfl rfl (by kernel_rfl) (fun _ _ _ h => h) (Or.inl ⟨by rfl, ?_⟩) hHeld ?_ ?_
    rotate_left
    · rintro w' ⟨s0, s1, s2, s3, s4, s5, s6, s7⟩
      go_simp
      with_reducible rfl
    rotate_left
    · simp only [Act.put, List.setIfInBounds_toArray, List.set_cons_zero, List.set_cons_succ, i64_w, i32_w]
      rfl
    refine take_ (i := 1) (N := some 7) (v := ?_) (a' := ?_) #[true, true, false, false, false, false, false, false, false, false, false, false, false] rfl rfl (by kernel_rfl) (fun _ _ _ h => h) (Or.inl ⟨by rfl, ?_⟩) hHeld ?_ ?_
    rotate_left
    · rintro w' ⟨s0, s1, s2, s3, s4, s5, s6, s7⟩
      go_simp
      with_reducible rfl
    rotate_left
    · simp only [Act.put, List.setIfInBounds_toArray, List.set_cons_zero, List.set_cons_succ, i64_w, i32_w]
      rfl
    refine one_ (i := 2) (N := some 8) #[true, true, true, false, false, false, false, false, false, false, false, false, false] rfl rfl (by kernel_rfl) (by decide) (fun K hK => ?_)
    refine goes_ Try.func90 (by kernel_rfl) rfl #[.agg #[.int .i64 x.f0, .int .i64 x.f1, .slice B x.f2.length d, .bool x.f3], .int .i64 s] (by rfl) rfl rfl (by (try simp only [List.map_toArray, List.map_cons, List.map_nil]); first | done | rfl) ?_
    refine (HN.out _ hHeld.2.2.2.2.2.2.2).mono ?_
    rintro e w2 ⟨rfl, hb2⟩
    refine ⟨_, rfl, ?_⟩
    refine hK.out _ _ (HS.out _ hb2) (fun hHeld => ?_)
    clear hK K
    refine norm_ (a' := ?_) ?_ ?_
    rotate_left
    · show Act.put _ (some 8) _ = _
      simp only [Act.put, List.setIfInBounds_toArray, List.set_cons_zero, List.set_cons_succ, i64_w, i32_w]
      rfl
    refine pure_ (i := 3) (N := some 9) (v := ?_) (a' := ?_) #[true, true, true, true, false, false, false, false, false, false, false, false, false] rfl rfl (by kernel_rfl) (fun _ _ _ h => h) (Or.inl ⟨by rfl, ?_⟩) ?_ ?_
    rotate_left
    · intro w'
      go_simp
      with_reducible rfl
    rotate_left
    · simp only [Act.put, List.setIfInBounds_toArray, List.set_cons_zero, List.set_cons_succ, i64_w, i32_w]
      rfl
    refine pure_ (i := 4) (N := some 10) (v := ?_) (a' := ?_) #[true, true, true, true, true, false, false, false, false, false, false, false, false] rfl rfl (by kernel_rfl) (fun _ _ _ h => h) (Or.inl ⟨by rfl, ?_⟩) ?_ ?_
    rotate_left
    · intro w'
      go_simp
      with_reducible rfl
    rotate_left
    · simp only [Act.put, List.setIfInBounds_toArray, List.set_cons_zero, List.set_cons_succ, i64_w, i32_w]
      rfl
    refine take_ (i := 5) (N := some 11) (v := ?_) (a' := ?_) #[true, true, true, true, true, true, false, false, false, false, false, false, false] rfl rfl (by kernel_rfl) (fun _ _ _ h => h) (Or.inl ⟨by rfl, ?_⟩) hHeld ?_ ?_
    rotate_left
    · rintro w' ⟨s0, s1, s2, s3, s4, s5, s6, s7⟩
      go_simp
      with_reducible rfl
    rotate_left
    · simp only [Act.put, List.setIfInBounds_toArray, List.set_cons_zero, List.set_cons_succ, i64_w, i32_w]
      rfl
    refine take_ (i := 6) (N := some 12) (v := ?_) (a' := ?_) #[true, true, true, true, true, true, true, false, false, false, false, false, false] rfl rfl (by kernel_rfl) (fun _ _ _ h => h) (Or.inl ⟨by rfl, ?_⟩) hHeld ?_ ?_
    rotate_left
    · rintro w' ⟨s0, s1, s2, s3, s4, s5, s6, s7⟩
      go_simp
      with_reducible rfl
    rotate_left
    · simp only [Act.put, List.setIfInBounds_toArray, List.set_cons_zero, List.set_cons_succ, i64_w, i32_w]
      rfl
    refine take_ (i := 9) (N := some 15) (v := ?_) (a' := ?_) #[true, true, true, true, true, true, true, false, false, true, false, false, false] rfl rfl (by kernel_rfl) (fun _ _ _ h => h) (Or.inl ⟨by rfl, ?_⟩) hHeld ?_ ?_
    rotate_left
    · rintro w' ⟨s0, s1, s2, s3, s4, s5, s6, s7⟩
      go_simp
      with_reducible rfl
    rotate_left
    · simp only [Act.put, List.setIfInBounds_toArray, List.set_cons_zero, List.set_cons_succ, i64_w, i32_w]
      rfl
    refine one_ (i := 7) (N := some 13) #[true, true, true, true, true, true, true, true, false, true, false, false, false] rfl rfl (by kernel_rfl) (by decide) (fun K hK => ?_)
    refine goes_ Try.func64 (by kernel_rfl) rfl #[.slice B x.f2.length d, .slice A h.length c] (by rfl) rfl rfl (by (try simp only [List.map_toArray, List.map_cons, List.map_nil]); first | done | rfl) ?_
    refine (HC.out _ hHeld.2.2.2.2.2.2.2).mono ?_
    rintro e w2 ⟨A3, c3, rfl, hb2⟩
    refine ⟨_, rfl, ?_⟩
    refine hK.out _ _ (HS.out _ hb2) (fun hHeld => ?_)
    clear hK K
    refine norm_ (a' := ?_) ?_ ?_
    rotate_left
    · show Act.put _ (some 13) _ = _
      simp only [Act.put, List.setIfInBounds_toArray, List.set_cons_zero, List.set_cons_succ, i64_w, i32_w]
      rfl
    refine pure_ (i := 8) (N := some 14) (v := ?_) (a' := ?_) #[true, true, true, true, true, true, true, true, true, true, false, false, false] rfl rfl (by kernel_rfl) (fun _ _ _ h => h) (Or.inl ⟨by rfl, ?_⟩) ?_ ?_
    rotate_left
    · intro w'
      go_simp
      with_reducible rfl
    rotate_left
    · simp only [Act.put, List.setIfInBounds_toArray, List.set_cons_zero, List.set_cons_succ, i64_w, i32_w]
      rfl
    refine pure_ (i := 10) (N := some 16) (v := ?_) (a' := ?_) #[true, true, true, true, true, true, true, true, true, true, true, false, false] rfl rfl (by kernel_rfl) (fun _ _ _ h => h) (Or.inl ⟨by rfl, ?_⟩) ?_ ?_
    rotate_left
    · intro w'
      go_simp
      with_reducible rfl
    rotate_left
    · simp only [Act.put, List.setIfInBounds_toArray, List.set_cons_zero, List.set_cons_succ, i64_w, i32_w]
      rfl
    refine pure_ (i := 11) (N := some 17) (v := ?_) (a' := ?_) #[true, true, true, true, true, true, true, true, true, true, true, true, false] rfl rfl (by kernel_rfl) (fun _ _ _ h => h) (Or.inl ⟨by rfl, ?_⟩) ?_ ?_
    rotate_left
    · intro w'
      go_simp
      with_reducible rfl
    rotate_left
    · simp only [Act.put, List.setIfInBounds_toArray, List.set_cons_zero, List.set_cons_succ, i64_w, i32_w]
      rfl
    refine pure_ (i := 12) (N := some 5) (v := ?_) (a' := ?_) #[true, true, true, true, true, true, true, true, true, true, true, true, true] rfl rfl (by kernel_rfl) (fun _ _ _ h => h) (Or.inl ⟨by rfl, ?_⟩) ?_ ?_
    rotate_left
    · intro w'
      go_simp
      with_reducible rfl
    rotate_left
    · simp only [Act.put, List.setIfInBounds_toArray, List.set_cons_zero, List.set_cons_succ, i64_w, i32_w]
      rfl
    refine done_ (by kernel_rfl) ?_
    go_wp2
    go_ret
    exact ⟨by rw [HF.out]; first | rfl | simp, HB.out.trans (hHeld.2.2.2.2.2.2.2.mono HB.out.size)⟩
set_option maxHeartbeats 4000000 in
set_option maxRecDepth 100000 in
theorem impl_heardEnough.calls (A0 : Option Addr) (c0 : Nat) (l0 : List S43) (a1 : Int) (a2 : Int) (A3 : Option Addr) (c3 : Nat) (l3 : List Int) (r : Bool) (w : World) (hr0 : Kd.C k43 w A0 l0.length l0) (hc0 : l0.length ≤ c0) (hr3 : Kd.C (Kd.int .i64) w A3 l3.length l3) (hc3 : l3.length ≤ c3) (h : impl_heardEnough.f l0 a1 a2 l3 = some r) :
    Calls Try.prog 67 #[.slice A0 l0.length c0, .int .i64 a1, .int .i64 a2, .slice A3 l3.length c3] w fun e w' => e = .returned (.bool r) ∧ Below w.heap.size w w' := by
  have hs : (l0.all fun x => (impl_heardOf.f x.f2 l3).isSome) = true := by
    by_cases hs : (l0.all fun x => (impl_heardOf.f x.f2 l3).isSome) = true
    · exact hs
    · rw [impl_heardEnough.f, if_neg hs] at h; cases h
  rw [impl_heardEnough.f, if_pos hs] at h
  have HE := Aside0.mk (Option.some.inj h)
  clear h
  have hsx := List.all_eq_true.1 hs
  obtain ⟨W1, hW1⟩ : ∃ W1, W1 = ((w.alloc (.cells #[.int .i64 a1] 2)).alloc (.cells #[.int .i64 a2] 2)).alloc (.cells #[.slice A3 l3.length c3] 22) := ⟨_, rfl⟩
  have hB : Below w.heap.size w W1 := by rw [hW1]; exact (((Below.refl _ _).alloc (Nat.le_refl _) _).alloc (by simp) _).alloc (by simp; omega) _
  have hz0 : W1.cell? ⟨w.heap.size, 0, none⟩ = some (.int .i64 a1) := by
    rw [hW1, World.cell?_alloc_lt _ _ _ (by simp; omega), World.cell?_alloc_lt _ _ _ (by simp)]; simp
  have hz1 : W1.cell? ⟨w.heap.size + 1, 0, none⟩ = some (.int .i64 a2) := by
    rw [hW1, World.cell?_alloc_lt _ _ _ (by simp)]
    have := impl_heardEnough.newc (w.alloc (.cells #[.int .i64 a1] 2)) (.int .i64 a2) 2
    rwa [show (w.alloc (.cells #[.int .i64 a1] 2)).heap.size = w.heap.size + 1 by simp] at this
  have hz2 : W1.cell? ⟨w.heap.size + 2, 0, none⟩ = some (.slice A3 l3.length c3) := by
    rw [hW1]
    have := impl_heardEnough.newc ((w.alloc (.cells #[.int .i64 a1] 2)).alloc (.cells #[.int .i64 a2] 2)) (.slice A3 l3.length c3) 22
    rwa [show ((w.alloc (.cells #[.int .i64 a1] 2)).alloc (.cells #[.int .i64 a2] 2)).heap.size = w.heap.size + 2 by simp] at this
  have HI1 : Aside0 (∀ W, Below W1.heap.size W1 W → Calls Try.prog 87 #[.slice A0 l0.length c0, .func (.func 88) #[] #[.pointer (some ⟨w.heap.size + 1, 0, none⟩)]] W fun e w' => e = .returned (.bool (l0.any fun x => (x.f0 == a2))) ∧ Below W1.heap.size W1 w') := ⟨fun W hW => by
    refine (impl_heardEnough.c1.contains ⟨w.heap.size + 1, 0, none⟩ (fun x => (x.f0 == a2)) A0 c0 l0 W (Kd.C_below (Kd.C_below hr0 hB) hW) (fun W2 x B d hb _ hd hx => (impl_heardEnough.pred1 x B d _ a2 W2 ?_).mono fun e w' ⟨he, hw⟩ => ⟨he, hb.trans (hw.mono hb.size)⟩)).mono fun e w' ⟨he, hw⟩ => ⟨he, hW.trans (hw.mono hW.size)⟩
    have e1 := (hW.cell (World.block_lt_of_cell? W1 _ hz1)).trans hz1
    exact (hb.cell (World.block_lt_of_cell? W _ e1)).trans e1⟩
  have HI2 : Aside0 (∀ W, Below W1.heap.size W1 W → Calls Try.prog 87 #[.slice A0 l0.length c0, .func (.func 89) #[] #[.pointer (some ⟨w.heap.size + 1, 0, none⟩), .pointer (some ⟨w.heap.size + 2, 0, none⟩), .pointer (some ⟨w.heap.size, 0, none⟩)]] W fun e w' => e = .returned (.bool (l0.any (impl_heardEnough.few a1 a2 l3))) ∧ Below W1.heap.size W1 w') := ⟨fun W hW => by
    refine (impl_heardEnough.c2.contains ⟨w.heap.size + 1, 0, none⟩ ⟨w.heap.size + 2, 0, none⟩ ⟨w.heap.size, 0, none⟩ (impl_heardEnough.few a1 a2 l3) A0 c0 l0 W (Kd.C_below (Kd.C_below hr0 hB) hW) (fun W2 x B d hb hm hd hx => (impl_heardEnough.pred2 x B d hd _ _ _ a1 a2 A3 c3 l3 hc3 W2 hx (Kd.C_below (Kd.C_below (Kd.C_below hr3 hB) hW) hb) ?_ ?_ ?_ (hsx x hm)).mono fun e w' ⟨he, hw⟩ => ⟨he, hb.trans (hw.mono hb.size)⟩)).mono fun e w' ⟨he, hw⟩ => ⟨he, hW.trans (hw.mono hW.size)⟩
    · have e1 := (hW.cell (World.block_lt_of_cell? W1 _ hz1)).trans hz1
      exact (hb.cell (World.block_lt_of_cell? W _ e1)).trans e1
    · have e1 := (hW.cell (World.block_lt_of_cell? W1 _ hz2)).trans hz2
      exact (hb.cell (World.block_lt_of_cell? W _ e1)).trans e1
    · have e1 := (hW.cell (World.block_lt_of_cell? W1 _ hz0)).trans hz0
      exact (hb.cell (World.block_lt_of_cell? W _ e1)).trans e1⟩
  generalize (l0.any fun x => (x.f0 == a2)) = N1 at HI1 HE
  generalize (l0.any (impl_heardEnough.few a1 a2 l3)) = N2 at HI2 HE
  have HB := Aside0.mk hB
  have HZ1 := Aside0.mk hz1
  clear hB hz0 hz1 hz2 hs hsx hr0 hr3 hc0 hc3
  subst hW1
  by_cases g : 0 < a2
  · have g1 : decide (0 < a2) = true := decide_eq_true g
    have G := Aside0.mk g1
    clear g
    cases N1 with
    | true =>
      go_enter Try.func67, Try.ntmps67
      go_wp2_with (first | (go_at_call 87; (with_reducible refine (HI1.out _ (by first | exact Below.refl _ _ | exact pw_below_drewN (Below.refl _ _) _)).mono ?_); rintro e w2 ⟨rfl, hb2⟩) | (go_at_call 87; (with_reducible refine (HI2.out _ hb2).mono ?_); rintro e w3 ⟨rfl, hb3⟩))
      go_ret
      exact ⟨by rw [← HE.out, G.out]; simp, HB.out.trans (hb3.mono HB.out.size)⟩
    | false =>
      go_enter Try.func67, Try.ntmps67
      go_wp2_with (first | (go_at_call 87; (with_reducible refine (HI1.out _ (by first | exact Below.refl _ _ | exact pw_below_drewN (Below.refl _ _) _)).mono ?_); rintro e w2 ⟨rfl, hb2⟩))
      go_ret
      exact ⟨by rw [← HE.out, G.out]; simp, HB.out.trans (hb2.mono HB.out.size)⟩
  · have g1 : decide (0 < a2) = false := decide_eq_false g
    have G := Aside0.mk g1
    clear g
    go_enter Try.func67, Try.ntmps67
    go_wp2_with (first | (go_at_call 87; (with_reducible refine (HI2.out _ (by first | exact Below.refl _ _ | exact pw_below_drewN (Below.refl _ _) _)).mono ?_); rintro e w3 ⟨rfl, hb3⟩))
    go_ret
    exact ⟨by rw [← HE.out, G.out]; simp, HB.out.trans (hb3.mono HB.out.size)⟩

/-! ### impl_HeardEnough: function 42 -/
def impl_HeardEnough.f (k : Nat) (l0 : List (S43)) (a1 : Int) (a2 : Int) (l3 : List Int) : Option (Bool) := (impl_IntervalsOk.f k l0).bind fun t231 => (if t231 = true then ((impl_between.f a1 1 7).bind fun t232 => (if t232 = true then ((impl_heardOk.f k l3).bind fun t233 => (if t233 = true then ((impl_heardEnough.f l0 a1 a2 l3).bind fun t234 => (some t234)) else (some false))) else (some false))) else (some false))
theorem impl_HeardEnough.mono : ∀ a0 a1 a2 a3 k, LeO (impl_HeardEnough.f k a0 a1 a2 a3) (impl_HeardEnough.f (k + 1) a0 a1 a2 a3) := by
  intro a0 a1 a2 a3 k
  unfold impl_HeardEnough.f
  repeat' first
      | (with_reducible exact impl_IntervalsOk.mono _ _)
      | (with_reducible exact impl_heardOk.mono _ _)
      | (with_reducible exact LeO.refl _)
      | (with_reducible exact LeO.none _)
      | (with_reducible refine LeO.ite ?_ ?_)
      | (with_reducible refine LeO.bind ?_ (fun _ => ?_))
      | exact impl_IntervalsOk.mono _ _
      | exact impl_heardOk.mono _ _
      | exact LeO.none _
      | refine LeO.ite ?_ ?_
      | refine LeO.bind ?_ (fun _ => ?_)
set_option maxHeartbeats 8000000 in
set_option maxRecDepth 100000 in
theorem impl_HeardEnough.calls (k : Nat) (A0 : Option Addr) (c0 : Nat) (l0 : List (S43)) (a1 : Int) (a2 : Int) (A3 : Option Addr) (c3 : Nat) (l3 : List Int) (r : Bool) (w : World) (hr0 : Kd.C k43 w A0 l0.length l0) (hc0 : l0.length ≤ c0) (hr3 : Kd.C (Kd.int .i64) w A3 l3.length l3) (hc3 : l3.length ≤ c3) (h : impl_HeardEnough.f k l0 a1 a2 l3 = some r) :
    Calls Try.prog 42 #[.slice A0 l0.length c0, .int .i64 a1, .int .i64 a2, .slice A3 l3.length c3] w fun e w' => e = .returned (.bool r) ∧ Below w.heap.size w w' := by
  have HR0 := Aside0.mk hr0
  have HC0 := Aside0.mk hc0
  clear hr0 hc0
  have HR3 := Aside0.mk hr3
  have HC3 := Aside0.mk hc3
  clear hr3 hc3
  have HB := Aside0.mk (Below.refl w.heap.size w)
  have H : ((impl_IntervalsOk.f k l0).bind fun t231 => (if t231 = true then ((impl_between.f a1 1 7).bind fun t232 => (if t232 = true then ((impl_heardOk.f k l3).bind fun t233 => (if t233 = true then ((impl_heardEnough.f l0 a1 a2 l3).bind fun t234 => (some t234)) else (some false))) else (some false))) else (some false))) = some r := h
  clear h
  replace H := Option.bind_eq_some_iff.mp H
  obtain ⟨t231, A50, H⟩ := H
  replace H : (if t231 = true then ((impl_between.f a1 1 7).bind fun t232 => (if t232 = true then ((impl_heardOk.f k l3).bind fun t233 => (if t233 = true then ((impl_heardEnough.f l0 a1 a2 l3).bind fun t234 => (some t234)) else (some false))) else (some false))) else (some false)) = some r := H
  have A5 := Aside0.mk A50
  clear A50
  by_cases c6 : t231 = true
  · subst c6
    have H1 : ((impl_between.f a1 1 7).bind fun t232 => (if t232 = true then ((impl_heardOk.f k l3).bind fun t233 => (if t233 = true then ((impl_heardEnough.f l0 a1 a2 l3).bind fun t234 => (some t234)) else (some false))) else (some false))) = some r := by rw [if_pos rfl] at H; exact H
    clear H
    have H := H1
    clear H1
    replace H := Option.bind_eq_some_iff.mp H
    obtain ⟨t232, A70, H⟩ := H
    replace H : (if t232 = true then ((impl_heardOk.f k l3).bind fun t233 => (if t233 = true then ((impl_heardEnough.f l0 a1 a2 l3).bind fun t234 => (some t234)) else (some false))) else (some false)) = some r := H
    have A7 := Aside0.mk A70
    clear A70
    by_cases c8 : t232 = true
    · subst c8
      have H1 : ((impl_heardOk.f k l3).bind fun t233 => (if t233 = true then ((impl_heardEnough.f l0 a1 a2 l3).bind fun t234 => (some t234)) else (some false))) = some r := by rw [if_pos rfl] at H; exact H
      clear H
      have H := H1
      clear H1
      replace H := Option.bind_eq_some_iff.mp H
      obtain ⟨t233, A90, H⟩ := H
      replace H : (if t233 = true then ((impl_heardEnough.f l0 a1 a2 l3).bind fun t234 => (some t234)) else (some false)) = some r := H
      have A9 := Aside0.mk A90
      clear A90
      by_cases c10 : t233 = true
      · subst c10
        have H1 : ((impl_heardEnough.f l0 a1 a2 l3).bind fun t234 => (some t234)) = some r := by rw [if_pos rfl] at H; exact H
        clear H
        have H := H1
        clear H1
        replace H := Option.bind_eq_some_iff.mp H
        obtain ⟨t234, A110, H⟩ := H
        replace H : (some t234) = some r := H
        have A11 := Aside0.mk A110
        clear A110
        obtain rfl := Option.some.inj H
        go_enter Try.func42, Try.ntmps42
        go_wp2_with (first | ((with_reducible refine gate_callee (f := 30) rfl ?_); refine goesL_ (some 10) rfl rfl Try.func30 (by kernel_rfl) rfl #[.slice A0 l0.length c0] rfl (by (try simp only [List.map_toArray, List.map_cons, List.map_nil]); first | done | rfl | (simp only [List.length_drop, List.length_take]; rfl)) ?_; (with_reducible refine (impl_IntervalsOk.calls k _ _ l0 true _ ?side1 ?side2 A5.out).mono ?_); (case side1 => repeat (first | exact HR0.out | (with_reducible refine Kd.C_alloc ?_ _) | (with_reducible refine Kd.C_drewN ?_ _) | (with_reducible refine Kd.C_drew ?_))); (case side2 => exact HC0.out); rintro e w12 ⟨rfl, hb⟩; refine ⟨_, rfl, ?_⟩; have n0_ := Aside0.mk (below_step (by repeat (first | (with_reducible first | exact HB.out | apply below_alloc | apply pw_below_drewN | apply below_drew1) | exact HB.out)) hb); clear HB; have HB := n0_; clear n0_; (try clear hb); (try clear hb2); (try clear hk); (try clear hi)) | (go_at_call 47; (with_reducible refine (impl_between.calls a1 1 7 true _ A7.out).mono ?_); rintro e w' ⟨rfl, ⟨nd, rfl⟩⟩) | (go_at_call 63; (with_reducible refine (impl_heardOk.calls k _ _ l3 true _ ?side1 ?side2 A9.out).mono ?_); (case side1 => repeat (first | exact (Kd.C_below HR3.out (by repeat (first | (with_reducible first | exact HB.out | apply below_alloc | apply pw_below_drewN | apply below_drew1) | exact HB.out))) | (with_reducible refine Kd.C_alloc ?_ _) | (with_reducible refine Kd.C_drewN ?_ _) | (with_reducible refine Kd.C_drew ?_))); (case side2 => exact HC3.out); rintro e w13 ⟨rfl, hb⟩; have n0_ := Aside0.mk (below_step (by repeat (first | (with_reducible first | exact HB.out | apply below_alloc | apply pw_below_drewN | apply below_drew1) | exact HB.out)) hb); clear HB; have HB := n0_; clear n0_; (try clear hb); (try clear hb2); (try clear hk); (try clear hi)) | (go_at_call 67; (with_reducible refine (impl_heardEnough.calls _ _ l0 a1 a2 _ _ l3 t234 _ ?side1 ?side2 ?side3 ?side4 A11.out).mono ?_); (case side1 => repeat (first | exact (Kd.C_below HR0.out HB.out) | (with_reducible refine Kd.C_alloc ?_ _) | (with_reducible refine Kd.C_drewN ?_ _) | (with_reducible refine Kd.C_drew ?_))); (case side2 => exact HC0.out); (case side3 => repeat (first | exact (Kd.C_below HR3.out HB.out) | (with_reducible refine Kd.C_alloc ?_ _) | (with_reducible refine Kd.C_drewN ?_ _) | (with_reducible refine Kd.C_drew ?_))); (case side4 => exact HC3.out); rintro e w14 ⟨rfl, hb⟩; have n0_ := Aside0.mk (below_step (by repeat (first | (with_reducible first | exact HB.out | apply below_alloc | apply pw_below_drewN | apply below_drew1) | exact HB.out)) hb); clear HB; have HB := n0_; clear n0_; (try clear hb); (try clear hb2); (try clear hk); (try clear hi)))
        go_ret
        exact ⟨by first | rfl | (simp [errW_none, errW_some] <;> rfl) | (simp [*, errW_none, errW_some] <;> rfl), by repeat (first | (with_reducible first | exact HB.out | apply below_alloc | apply pw_below_drewN | apply below_drew1) | exact HB.out)⟩
      · replace c10 := Bool.eq_false_iff.mpr c10
        subst c10
        have H1 : (some false) = some r := by rw [if_neg (show ¬ (false = true) by decide)] at H; exact H
        clear H
        have H := H1
        clear H1
        obtain rfl := Option.some.inj H
        go_enter Try.func42, Try.ntmps42
        go_wp2_with (first | ((with_reducible refine gate_callee (f := 30) rfl ?_); refine goesL_ (some 10) rfl rfl Try.func30 (by kernel_rfl) rfl #[.slice A0 l0.length c0] rfl (by (try simp only [List.map_toArray, List.map_cons, List.map_nil]); first | done | rfl | (simp only [List.length_drop, List.length_take]; rfl)) ?_; (with_reducible refine (impl_IntervalsOk.calls k _ _ l0 true _ ?side1 ?side2 A5.out).mono ?_); (case side1 => repeat (first | exact HR0.out | (with_reducible refine Kd.C_alloc ?_ _) | (with_reducible refine Kd.C_drewN ?_ _) | (with_reducible refine Kd.C_drew ?_))); (case side2 => exact HC0.out); rintro e w15 ⟨rfl, hb⟩; refine ⟨_, rfl, ?_⟩; have n0_ := Aside0.mk (below_step (by repeat (first | (with_reducible first | exact HB.out | apply below_alloc | apply pw_below_drewN | apply below_drew1) | exact HB.out)) hb); clear HB; have HB := n0_; clear n0_; (try clear hb); (try clear hb2); (try clear hk); (try clear hi)) | (go_at_call 47; (with_reducible refine (impl_between.calls a1 1 7 true _ A7.out).mono ?_); rintro e w' ⟨rfl, ⟨nd, rfl⟩⟩) | (go_at_call 63; (with_reducible refine (impl_heardOk.calls k _ _ l3 false _ ?side1 ?side2 A9.out).mono ?_); (case side1 => repeat (first | exact (Kd.C_below HR3.out (by repeat (first | (with_reducible first | exact HB.out | apply below_alloc | apply pw_below_drewN | apply below_drew1) | exact HB.out))) | (with_reducible refine Kd.C_alloc ?_ _) | (with_reducible refine Kd.C_drewN ?_ _) | (with_reducible refine Kd.C_drew ?_))); (case side2 => exact HC3.out); rintro e w16 ⟨rfl, hb⟩; have n0_ := Aside0.mk (below_step (by repeat (first | (with_reducible first | exact HB.out | apply below_alloc | apply pw_below_drewN | apply below_drew1) | exact HB.out)) hb); clear HB; have HB := n0_; clear n0_; (try clear hb); (try clear hb2); (try clear hk); (try clear hi)))
        go_ret
        exact ⟨by first | rfl | (simp [errW_none, errW_some] <;> rfl) | (simp [*, errW_none, errW_some] <;> rfl), by repeat (first | (with_reducible first | exact HB.out | apply below_alloc | apply pw_below_drewN | apply below_drew1) | exact HB.out)⟩
    · replace c8 := Bool.eq_false_iff.mpr c8
      subst c8
      have H1 : (some false) = some r := by rw [if_neg (show ¬ (false = true) by decide)] at H; exact H
      clear H
      have H := H1
      clear H1
      obtain rfl := Option.some.inj H
      go_enter Try.func42, Try.ntmps42
      go_wp2_with (first | ((with_reducible refine gate_callee (f := 30) rfl ?_); refine goesL_ (some 10) rfl rfl Try.func30 (by kernel_rfl) rfl #[.slice A0 l0.length c0] rfl (by (try simp only [List.map_toArray, List.map_cons, List.map_nil]); first | done | rfl | (simp only [List.length_drop, List.length_take]; rfl)) ?_; (with_reducible refine (impl_IntervalsOk.calls k _ _ l0 true _ ?side1 ?side2 A5.out).mono ?_); (case side1 => repeat (first | exact HR0.out | (with_reducible refine Kd.C_alloc ?_ _) | (with_reducible refine Kd.C_drewN ?_ _) | (with_reducible refine Kd.C_drew ?_))); (case side2 => exact HC0.out); rintro e w17 ⟨rfl, hb⟩; refine ⟨_, rfl, ?_⟩; have n0_ := Aside0.mk (below_step (by repeat (first | (with_reducible first | exact HB.out | apply below_alloc | apply pw_below_drewN | apply below_drew1) | exact HB.out)) hb); clear HB; have HB := n0_; clear n0_; (try clear hb); (try clear hb2); (try clear hk); (try clear hi)) | (go_at_call 47; (with_reducible refine (impl_between.calls a1 1 7 false _ A7.out).mono ?_); rintro e w' ⟨rfl, ⟨nd, rfl⟩⟩))
      go_ret
      exact ⟨by first | rfl | (simp [errW_none, errW_some] <;> rfl) | (simp [*, errW_none, errW_some] <;> rfl), by repeat (first | (with_reducible first | exact HB.out | apply below_alloc | apply pw_below_drewN | apply below_drew1) | exact HB.out)⟩
  · replace c6 := Bool.eq_false_iff.mpr c6
    subst c6
    have H1 : (some false) = some r := by rw [if_neg (show ¬ (false = true) by decide)] at H; exact H
    clear H
    have H := H1
    clear H1
    obtain rfl := Option.some.inj H
    go_enter Try.func42, Try.ntmps42
    go_wp2_with (first | ((with_reducible refine gate_callee (f := 30) rfl ?_); refine goesL_ (some 10) rfl rfl Try.func30 (by kernel_rfl) rfl #[.slice A0 l0.length c0] rfl (by (try simp only [List.map_toArray, List.map_cons, List.map_nil]); first | done | rfl | (simp only [List.length_drop, List.length_take]; rfl)) ?_; (with_reducible refine (impl_IntervalsOk.calls k _ _ l0 false _ ?side1 ?side2 A5.out).mono ?_); (case side1 => repeat (first | exact HR0.out | (with_reducible refine Kd.C_alloc ?_ _) | (with_reducible refine Kd.C_drewN ?_ _) | (with_reducible refine Kd.C_drew ?_))); (case side2 => exact HC0.out); rintro e w18 ⟨rfl, hb⟩; refine ⟨_, rfl, ?_⟩; have n0_ := Aside0.mk (below_step (by repeat (first | (with_reducible first | exact HB.out | apply below_alloc | apply pw_below_drewN | apply below_drew1) | exact HB.out)) hb); clear HB; have HB := n0_; clear n0_; (try clear hb); (try clear hb2); (try clear hk); (try clear hi)))
    go_ret
    exact ⟨by first | rfl | (simp [errW_none, errW_some] <;> rfl) | (simp [*, errW_none, errW_some] <;> rfl), by repeat (first | (with_reducible first | exact HB.out | apply below_alloc | apply pw_below_drewN | apply below_drew1) | exact HB.out)⟩

/-! ### laws_FnExactHeardEnough: function 11 -/
def laws_FnExactHeardEnough.f (k : Nat) (l0 : List (S40)) (a1 : Int) (a2 : Int) (l3 : List Int) : Option (Bool) := if (l3.length : Int) > 1048576 then (some true) else ((laws_szIntervalS.f k l0 1048576).bind fun t235 => (if t235 < 0 then (some true) else ((laws_toIntervalS.f k l0).bind fun t236 => ((laws_toInt64S.f k l3).bind fun t239 => ((spec_HeardEnough.f k t236 a1 a2 t239).bind fun t242 => ((laws_toIntervalS.f k l0).bind fun t243 => ((laws_toInt64S.f k l3).bind fun t246 => ((impl_HeardEnough.f k t243 a1 a2 t246).bind fun t249 => (if (t249 != t242) = true then (some false) else ((laws_toIntervalS.f k l0).bind fun t250 => ((laws_eqIntervalS.f k t243 t250).bind fun t253 => (if t253 = true then ((laws_toInt64S.f k l3).bind fun t254 => ((laws_eqInt64S.f k t246 t254).bind fun t257 => (if t257 = true then (some true) else (some false)))) else (some false)))))))))))))
theorem laws_FnExactHeardEnough.mono : ∀ a0 a1 a2 a3 k, LeO (laws_FnExactHeardEnough.f k a0 a1 a2 a3) (laws_FnExactHeardEnough.f (k + 1) a0 a1 a2 a3) := by
  intro a0 a1 a2 a3 k
  unfold laws_FnExactHeardEnough.f
  repeat' first
      | (with_reducible exact impl_HeardEnough.mono _ _ _ _ _)
      | (with_reducible exact laws_eqInt64S.mono _ _ _)
      | (with_reducible exact laws_eqIntervalS.mono _ _ _)
      | (with_reducible exact laws_szIntervalS.mono _ _ _)
      | (with_reducible exact laws_toInt64S.mono _ _)
      | (with_reducible exact laws_toIntervalS.mono _ _)
      | (with_reducible exact spec_HeardEnough.mono _ _ _ _ _)
      | (with_reducible exact LeO.refl _)
      | (with_reducible exact LeO.none _)
      | (with_reducible refine LeO.ite ?_ ?_)
      | (with_reducible refine LeO.bind ?_ (fun _ => ?_))
      | exact impl_HeardEnough.mono _ _ _ _ _
      | exact laws_eqInt64S.mono _ _ _
      | exact laws_eqIntervalS.mono _ _ _
      | exact laws_szIntervalS.mono _ _ _
      | exact laws_toInt64S.mono _ _
      | exact laws_toIntervalS.mono _ _
      | exact spec_HeardEnough.mono _ _ _ _ _
      | exact LeO.none _
      | refine LeO.ite ?_ ?_
      | refine LeO.bind ?_ (fun _ => ?_)
set_option maxHeartbeats 8000000 in
set_option maxRecDepth 100000 in
theorem laws_FnExactHeardEnough.calls (k : Nat) (A0 : Option Addr) (c0 : Nat) (l0 : List (S40)) (a1 : Int) (a2 : Int) (A3 : Option Addr) (c3 : Nat) (l3 : List Int) (r : Bool) (w : World) (hr0 : Kd.C k40 w A0 l0.length l0) (hc0 : l0.length ≤ c0) (hr3 : Kd.C (Kd.int .i64) w A3 l3.length l3) (hc3 : l3.length ≤ c3) (hT0 : r = true) (h : laws_FnExactHeardEnough.f k l0 a1 a2 l3 = some r) :
    Calls Try.prog 11 #[.slice A0 l0.length c0, .int .i64 a1, .int .i64 a2, .slice A3 l3.length c3] w fun e w' => e = .returned (.bool r) ∧ Below w.heap.size w w' := by
  have hT := Aside0.mk hT0
  clear hT0
  have HR0 := Aside0.mk hr0
  have HC0 := Aside0.mk hc0
  clear hr0 hc0
  have HR3 := Aside0.mk hr3
  have HC3 := Aside0.mk hc3
  clear hr3 hc3
  have HB := Aside0.mk (Below.refl w.heap.size w)
  have H : (if (l3.length : Int) > 1048576 then (some true) else ((laws_szIntervalS.f k l0 1048576).bind fun t235 => (if t235 < 0 then (some true) else ((laws_toIntervalS.f k l0).bind fun t236 => ((laws_toInt64S.f k l3).bind fun t239 => ((spec_HeardEnough.f k t236 a1 a2 t239).bind fun t242 => ((laws_toIntervalS.f k l0).bind fun t243 => ((laws_toInt64S.f k l3).bind fun t246 => ((impl_HeardEnough.f k t243 a1 a2 t246).bind fun t249 => (if (t249 != t242) = true then (some false) else ((laws_toIntervalS.f k l0).bind fun t250 => ((laws_eqIntervalS.f k t243 t250).bind fun t253 => (if t253 = true then ((laws_toInt64S.f k l3).bind fun t254 => ((laws_eqInt64S.f k t246 t254).bind fun t257 => (if t257 = true then (some true) else (some false)))) else (some false)))))))))))))) = some r := h
  clear h
  by_cases c5 : (l3.length : Int) > 1048576
  · rw [if_pos c5] at H
    have c5b0 : decide (1048576 < (l3.length : Int)) = true := decide_eq_true c5
    have c5b1 : decide (1048576 < l3.length) = true := decide_eq_true (by omega)
    clear c5
    obtain rfl := Option.some.inj H
    go_enter Try.func11, Try.ntmps11
    go_wp2
    go_ret
    exact ⟨by first | rfl | (simp [errW_none, errW_some] <;> rfl) | (simp [*, errW_none, errW_some] <;> rfl), by repeat (first | (with_reducible first | exact HB.out | apply below_alloc | apply pw_below_drewN | apply below_drew1) | exact HB.out)⟩
  · rw [if_neg c5] at H
    have c5b0 : decide (1048576 < (l3.length : Int)) = false := decide_eq_false c5
    have c5b1 : decide (1048576 < l3.length) = false := decide_eq_false (by omega)
    clear c5
    replace H := Option.bind_eq_some_iff.mp H
    obtain ⟨t235, A60, H⟩ := H
    replace H : (if t235 < 0 then (some true) else ((laws_toIntervalS.f k l0).bind fun t236 => ((laws_toInt64S.f k l3).bind fun t239 => ((spec_HeardEnough.f k t236 a1 a2 t239).bind fun t242 => ((laws_toIntervalS.f k l0).bind fun t243 => ((laws_toInt64S.f k l3).bind fun t246 => ((impl_HeardEnough.f k t243 a1 a2 t246).bind fun t249 => (if (t249 != t242) = true then (some false) else ((laws_toIntervalS.f k l0).bind fun t250 => ((laws_eqIntervalS.f k t243 t250).bind fun t253 => (if t253 = true then ((laws_toInt64S.f k l3).bind fun t254 => ((laws_eqInt64S.f k t246 t254).bind fun t257 => (if t257 = true then (some true) else (some false)))) else (some false)))))))))))) = some r := H
    have A6 := Aside0.mk A60
    clear A60
    by_cases c7 : t235 < 0
    · rw [if_pos c7] at H
      have c7b0 : decide (t235 < 0) = true := decide_eq_true c7
      clear c7
      obtain rfl := Option.some.inj H
      go_enter Try.func11, Try.ntmps11
      go_wp2_with (first | ((with_reducible refine gate_callee (f := 27) rfl ?_); refine goesL_ (some 19) rfl rfl Try.func27 (by kernel_rfl) rfl #[.slice A0 l0.length c0, .int .i64 1048576] rfl (by (try simp only [List.map_toArray, List.map_cons, List.map_nil]); first | done | rfl | (simp only [List.length_drop, List.length_take]; rfl)) ?_; (with_reducible refine (laws_szIntervalS.calls k _ _ l0 1048576 t235 _ ?side1 ?side2 A6.out).mono ?_); (case side1 => repeat (first | exact HR0.out | (with_reducible refine Kd.C_alloc ?_ _) | (with_reducible refine Kd.C_drewN ?_ _) | (with_reducible refine Kd.C_drew ?_))); (case side2 => exact HC0.out); rintro e w8 ⟨rfl, hb⟩; refine ⟨_, rfl, ?_⟩; have n0_ := Aside0.mk (below_step (by repeat (first | (with_reducible first | exact HB.out | apply below_alloc | apply pw_below_drewN | apply below_drew1) | exact HB.out)) hb); clear HB; have HB := n0_; clear n0_; (try clear hb); (try clear hb2); (try clear hk); (try clear hi)))
      go_ret
      exact ⟨by first | rfl | (simp [errW_none, errW_some] <;> rfl) | (simp [*, errW_none, errW_some] <;> rfl), by repeat (first | (with_reducible first | exact HB.out | apply below_alloc | apply pw_below_drewN | apply below_drew1) | exact HB.out)⟩
    · rw [if_neg c7] at H
      have c7b0 : decide (t235 < 0) = false := decide_eq_false c7
      clear c7
      replace H := Option.bind_eq_some_iff.mp H
      obtain ⟨t236, A90, H⟩ := H
      replace H : ((laws_toInt64S.f k l3).bind fun t239 => ((spec_HeardEnough.f k t236 a1 a2 t239).bind fun t242 => ((laws_toIntervalS.f k l0).bind fun t243 => ((laws_toInt64S.f k l3).bind fun t246 => ((impl_HeardEnough.f k t243 a1 a2 t246).bind fun t249 => (if (t249 != t242) = true then (some false) else ((laws_toIntervalS.f k l0).bind fun t250 => ((laws_eqIntervalS.f k t243 t250).bind fun t253 => (if t253 = true then ((laws_toInt64S.f k l3).bind fun t254 => ((laws_eqInt64S.f k t246 t254).bind fun t257 => (if t257 = true then (some true) else (some false)))) else (some false)))))))))) = some r := H
      have A9 := Aside0.mk A90
      clear A90
      replace H := Option.bind_eq_some_iff.mp H
      obtain ⟨t239, A100, H⟩ := H
      replace H : ((spec_HeardEnough.f k t236 a1 a2 t239).bind fun t242 => ((laws_toIntervalS.f k l0).bind fun t243 => ((laws_toInt64S.f k l3).bind fun t246 => ((impl_HeardEnough.f k t243 a1 a2 t246).bind fun t249 => (if (t249 != t242) = true then (some false) else ((laws_toIntervalS.f k l0).bind fun t250 => ((laws_eqIntervalS.f k t243 t250).bind fun t253 => (if t253 = true then ((laws_toInt64S.f k l3).bind fun t254 => ((laws_eqInt64S.f k t246 t254).bind fun t257 => (if t257 = true then (some true) else (some false)))) else (some false))))))))) = some r := H
      have A10 := Aside0.mk A100
      clear A100
      replace H := Option.bind_eq_some_iff.mp H
      obtain ⟨t242, A110, H⟩ := H
      replace H : ((laws_toIntervalS.f k l0).bind fun t243 => ((laws_toInt64S.f k l3).bind fun t246 => ((impl_HeardEnough.f k t243 a1 a2 t246).bind fun t249 => (if (t249 != t242) = true then (some false) else ((laws_toIntervalS.f k l0).bind fun t250 => ((laws_eqIntervalS.f k t243 t250).bind fun t253 => (if t253 = true then ((laws_toInt64S.f k l3).bind fun t254 => ((laws_eqInt64S.f k t246 t254).bind fun t257 => (if t257 = true then (some true) else (some false)))) else (some false)))))))) = some r := H
      have A11 := Aside0.mk A110
      clear A110
      replace H := Option.bind_eq_some_iff.mp H
      obtain ⟨t243, A120, H⟩ := H
      replace H : ((laws_toInt64S.f k l3).bind fun t246 => ((impl_HeardEnough.f k t243 a1 a2 t246).bind fun t249 => (if (t249 != t242) = true then (some false) else ((laws_toIntervalS.f k l0).bind fun t250 => ((laws_eqIntervalS.f k t243 t250).bind fun t253 => (if t253 = true then ((laws_toInt64S.f k l3).bind fun t254 => ((laws_eqInt64S.f k t246 t254).bind fun t257 => (if t257 = true then (some true) else (some false)))) else (some false))))))) = some r := H
      have A12 := Aside0.mk A120
      clear A120
      replace H := Option.bind_eq_some_iff.mp H
      obtain ⟨t246, A130, H⟩ := H
      replace H : ((impl_HeardEnough.f k t243 a1 a2 t246).bind fun t249 => (if (t249 != t242) = true then (some false) else ((laws_toIntervalS.f k l0).bind fun t250 => ((laws_eqIntervalS.f k t243 t250).bind fun t253 => (if t253 = true then ((laws_toInt64S.f k l3).bind fun t254 => ((laws_eqInt64S.f k t246 t254).bind fun t257 => (if t257 = true then (some true) else (some false)))) else (some false)))))) = some r := H
      have A13 := Aside0.mk A130
      clear A130
      replace H := Option.bind_eq_some_iff.mp H
      obtain ⟨t249, A140, H⟩ := H
      replace H : (if (t249 != t242) = true then (some false) else ((laws_toIntervalS.f k l0).bind fun t250 => ((laws_eqIntervalS.f k t243 t250).bind fun t253 => (if t253 = true then ((laws_toInt64S.f k l3).bind fun t254 => ((laws_eqInt64S.f k t246 t254).bind fun t257 => (if t257 = true then (some true) else (some false)))) else (some false))))) = some r := H
      have A14 := Aside0.mk A140
      clear A140
      by_cases c15 : (t249 != t242) = true
      · rw [if_pos c15] at H
        have c15b0 : (t249 != t242) = true := c15
        (try (have c15b1 : decide (t249 = t242) = false := by simpa using c15))
        (try (have c15b2 : (t249 == t242) = false := by simpa using c15))
        (try (have c15b3 : ¬ (t249 = t242) := by simpa using c15))
        clear c15
        exact absurd ((Option.some.inj H).trans hT.out) (by decide)
      · rw [if_neg c15] at H
        have c15b0 : (t249 != t242) = false := by simpa using c15
        (try (have c15b1 : decide (t249 = t242) = true := by simpa using c15))
        (try (have c15b2 : (t249 == t242) = true := by simpa using c15))
        clear c15
        replace H := Option.bind_eq_some_iff.mp H
        obtain ⟨t250, A160, H⟩ := H
        replace H : ((laws_eqIntervalS.f k t243 t250).bind fun t253 => (if t253 = true then ((laws_toInt64S.f k l3).bind fun t254 => ((laws_eqInt64S.f k t246 t254).bind fun t257 => (if t257 = true then (some true) else (some false)))) else (some false))) = some r := H
        have A16 := Aside0.mk A160
        clear A160
        replace H := Option.bind_eq_some_iff.mp H
        obtain ⟨t253, A170, H⟩ := H
        replace H : (if t253 = true then ((laws_toInt64S.f k l3).bind fun t254 => ((laws_eqInt64S.f k t246 t254).bind fun t257 => (if t257 = true then (some true) else (some false)))) else (some false)) = some r := H
        have A17 := Aside0.mk A170
        clear A170
        by_cases c18 : t253 = true
        · subst c18
          have H1 : ((laws_toInt64S.f k l3).bind fun t254 => ((laws_eqInt64S.f k t246 t254).bind fun t257 => (if t257 = true then (some true) else (some false)))) = some r := by rw [if_pos rfl] at H; exact H
          clear H
          have H := H1
          clear H1
          replace H := Option.bind_eq_some_iff.mp H
          obtain ⟨t254, A190, H⟩ := H
          replace H : ((laws_eqInt64S.f k t246 t254).bind fun t257 => (if t257 = true then (some true) else (some false))) = some r := H
          have A19 := Aside0.mk A190
          clear A190
          replace H := Option.bind_eq_some_iff.mp H
          obtain ⟨t257, A200, H⟩ := H
          replace H : (if t257 = true then (some true) else (some false)) = some r := H
          have A20 := Aside0.mk A200
          clear A200
          by_cases c21 : t257 = true
          · subst c21
            have H1 : (some true) = some r := by rw [if_pos rfl] at H; exact H
            clear H
            have H := H1
            clear H1
            obtain rfl := Option.some.inj H
            go_enter Try.func11, Try.ntmps11
            go_wp2_with (first | ((with_reducible refine gate_callee (f := 27) rfl ?_); refine goesL_ (some 19) rfl rfl Try.func27 (by kernel_rfl) rfl #[.slice A0 l0.length c0, .int .i64 1048576] rfl (by (try simp only [List.map_toArray, List.map_cons, List.map_nil]); first | done | rfl | (simp only [List.length_drop, List.length_take]; rfl)) ?_; (with_reducible refine (laws_szIntervalS.calls k _ _ l0 1048576 t235 _ ?side1 ?side2 A6.out).mono ?_); (case side1 => repeat (first | exact HR0.out | (with_reducible refine Kd.C_alloc ?_ _) | (with_reducible refine Kd.C_drewN ?_ _) | (with_reducible refine Kd.C_drew ?_))); (case side2 => exact HC0.out); rintro e w22 ⟨rfl, hb⟩; refine ⟨_, rfl, ?_⟩; have n0_ := Aside0.mk (below_step (by repeat (first | (with_reducible first | exact HB.out | apply below_alloc | apply pw_below_drewN | apply below_drew1) | exact HB.out)) hb); clear HB; have HB := n0_; clear n0_; (try clear hb); (try clear hb2); (try clear hk); (try clear hi)) | ((with_reducible refine gate_callee (f := 29) rfl ?_); refine goesL_ (some 23) rfl rfl Try.func29 (by kernel_rfl) rfl #[.slice A0 l0.length c0] rfl (by (try simp only [List.map_toArray, List.map_cons, List.map_nil]); first | done | rfl | (simp only [List.length_drop, List.length_take]; rfl)) ?_; (with_reducible refine (laws_toIntervalS.calls k _ _ l0 t236 _ ?side1 ?side2 A9.out).mono ?_); (case side1 => repeat (first | exact (Kd.C_below HR0.out HB.out) | (with_reducible refine Kd.C_alloc ?_ _) | (with_reducible refine Kd.C_drewN ?_ _) | (with_reducible refine Kd.C_drew ?_))); (case side2 => exact HC0.out); rintro e w23 ⟨v237, rfl, ho0, hb⟩; refine ⟨_, rfl, ?_⟩; have n0_ := Aside0.mk (Kd.S_lower ho0 (below_size (by repeat (first | (with_reducible first | exact HB.out | apply below_alloc | apply pw_below_drewN | apply below_drew1) | exact HB.out)))); have n1_ := Aside0.mk (below_step (by repeat (first | (with_reducible first | exact HB.out | apply below_alloc | apply pw_below_drewN | apply below_drew1) | exact HB.out)) hb); clear HB; have HO238 := n0_; have HB := n1_; clear n0_ n1_; (try clear hb); (try clear hb2); (try clear hk); (try clear hi); (try clear ho0)) | ((with_reducible refine gate_callee (f := 14) rfl ?_); refine goesL_ (some 27) rfl rfl Try.func14 (by kernel_rfl) rfl #[.slice A3 l3.length c3] rfl (by (try simp only [List.map_toArray, List.map_cons, List.map_nil]); first | done | rfl | (simp only [List.length_drop, List.length_take]; rfl)) ?_; (with_reducible refine (laws_toInt64S.calls k _ _ l3 t239 _ ?side1 ?side2 A10.out).mono ?_); (case side1 => repeat (first | exact (Kd.C_below HR3.out HB.out) | (with_reducible refine Kd.C_alloc ?_ _) | (with_reducible refine Kd.C_drewN ?_ _) | (with_reducible refine Kd.C_drew ?_))); (case side2 => exact HC3.out); rintro e w24 ⟨v240, rfl, ho0, hb⟩; refine ⟨_, rfl, ?_⟩; have n0_ := Aside0.mk (Kd.S_elder' (by (with_reducible repeat (first | apply Kd.S_alloc | apply Kd.S_drewN | apply Kd.S_drew)); exact HO238.out) (Kd.R_base ho0) hb); have n1_ := Aside0.mk (Kd.R_lower ho0 (below_size (by repeat (first | (with_reducible first | exact HB.out | apply below_alloc | apply pw_below_drewN | apply below_drew1) | exact HB.out)))); have n2_ := Aside0.mk (below_step (by repeat (first | (with_reducible first | exact HB.out | apply below_alloc | apply pw_below_drewN | apply below_drew1) | exact HB.out)) hb); clear HO238; clear HB; have HO238 := n0_; have HO241 := n1_; have HB := n2_; clear n0_ n1_ n2_; (try clear hb); (try clear hb2); (try clear hk); (try clear hi); (try clear ho0); obtain ⟨Ao25, co25, eo25⟩ := Kd.S_slice HO238.out; subst eo25; obtain ⟨Ao26, co26, eo26⟩ := Kd.R_slice HO241.out; subst eo26) | ((with_reducible refine gate_callee (f := 41) rfl ?_); refine goesL_ (some 28) rfl rfl Try.func41 (by kernel_rfl) rfl #[.slice Ao25 t236.length co25, .int .i64 a1, .int .i64 a2, .slice Ao26 t239.length co26] rfl (by (try simp only [List.map_toArray, List.map_cons, List.map_nil]); first | done | rfl | (simp only [List.length_drop, List.length_take]; rfl)) ?_; (with_reducible refine (spec_HeardEnough.calls k _ _ t236 a1 a2 _ _ t239 t242 _ ?side1 ?side2 ?side3 ?side4 A11.out).mono ?_); (case side1 => repeat (first | exact (Kd.S_reads' HO238.out).2.2 | (with_reducible refine Kd.C_alloc ?_ _) | (with_reducible refine Kd.C_drewN ?_ _) | (with_reducible refine Kd.C_drew ?_))); (case side2 => exact (Kd.S_reads' HO238.out).2.1); (case side3 => repeat (first | exact (Kd.R_reads' HO241.out).2.2 | (with_reducible refine Kd.C_alloc ?_ _) | (with_reducible refine Kd.C_drewN ?_ _) | (with_reducible refine Kd.C_drew ?_))); (case side4 => exact (Kd.R_reads' HO241.out).2.1); rintro e w27 ⟨rfl, hb⟩; refine ⟨_, rfl, ?_⟩; have n0_ := Aside0.mk (Kd.S_below (by (with_reducible repeat (first | apply Kd.S_alloc | apply Kd.S_drewN | apply Kd.S_drew)); exact HO238.out) hb); have n1_ := Aside0.mk (Kd.R_below (by (with_reducible repeat (first | apply Kd.R_alloc | apply Kd.R_drewN | apply Kd.R_drew)); exact HO241.out) hb); have n2_ := Aside0.mk (below_step (by repeat (first | (with_reducible first | exact HB.out | apply below_alloc | apply pw_below_drewN | apply below_drew1) | exact HB.out)) hb); clear HO238; clear HO241; clear HB; have HO238 := n0_; have HO241 := n1_; have HB := n2_; clear n0_ n1_ n2_; (try clear hb); (try clear hb2); (try clear hk); (try clear hi)) | ((with_reducible refine gate_callee (f := 29) rfl ?_); refine goesL_ (some 30) rfl rfl Try.func29 (by kernel_rfl) rfl #[.slice A0 l0.length c0] rfl (by (try simp only [List.map_toArray, List.map_cons, List.map_nil]); first | done | rfl | (simp only [List.length_drop, List.length_take]; rfl)) ?_; (with_reducible refine (laws_toIntervalS.calls k _ _ l0 t243 _ ?side1 ?side2 A12.out).mono ?_); (case side1 => repeat (first | exact (Kd.C_below HR0.out HB.out) | (with_reducible refine Kd.C_alloc ?_ _) | (with_reducible refine Kd.C_drewN ?_ _) | (with_reducible refine Kd.C_drew ?_))); (case side2 => exact HC0.out); rintro e w28 ⟨v244, rfl, ho0, hb⟩; refine ⟨_, rfl, ?_⟩; have n0_ := Aside0.mk (Kd.S_elder' (by (with_reducible repeat (first | apply Kd.S_alloc | apply Kd.S_drewN | apply Kd.S_drew)); exact HO238.out) (Kd.S_base ho0) hb); have n1_ := Aside0.mk (Kd.R_below (by (with_reducible repeat (first | apply Kd.R_alloc | apply Kd.R_drewN | apply Kd.R_drew)); exact HO241.out) hb); have n2_ := Aside0.mk (Kd.S_lower (Kd.S_new' (Kd.S_new' ho0 (Kd.S_lt (by (with_reducible repeat (first | apply Kd.S_alloc | apply Kd.S_drewN | apply Kd.S_drew)); exact HO238.out))) (Kd.R_lt (by (with_reducible repeat (first | apply Kd.R_alloc | apply Kd.R_drewN | apply Kd.R_drew)); exact HO241.out))) (below_size (by repeat (first | (with_reducible first | exact HB.out | apply below_alloc | apply pw_below_drewN | apply below_drew1) | exact HB.out)))); have n3_ := Aside0.mk (below_step (by repeat (first | (with_reducible first | exact HB.out | apply below_alloc | apply pw_below_drewN | apply below_drew1) | exact HB.out)) hb); clear HO238; clear HO241; clear HB; have HO238 := n0_; have HO241 := n1_; have HO245 := n2_; have HB := n3_; clear n0_ n1_ n2_ n3_; (try clear hb); (try clear hb2); (try clear hk); (try clear hi); (try clear ho0)) | ((with_reducible refine gate_callee (f := 14) rfl ?_); refine goesL_ (some 32) rfl rfl Try.func14 (by kernel_rfl) rfl #[.slice A3 l3.length c3] rfl (by (try simp only [List.map_toArray, List.map_cons, List.map_nil]); first | done | rfl | (simp only [List.length_drop, List.length_take]; rfl)) ?_; (with_reducible refine (laws_toInt64S.calls k _ _ l3 t246 _ ?side1 ?side2 A13.out).mono ?_); (case side1 => repeat (first | exact (Kd.C_below HR3.out HB.out) | (with_reducible refine Kd.C_alloc ?_ _) | (with_reducible refine Kd.C_drewN ?_ _) | (with_reducible refine Kd.C_drew ?_))); (case side2 => exact HC3.out); rintro e w29 ⟨v247, rfl, ho0, hb⟩; refine ⟨_, rfl, ?_⟩; have n0_ := Aside0.mk (Kd.S_elder' (by (with_reducible repeat (first | apply Kd.S_alloc | apply Kd.S_drewN | apply Kd.S_drew)); exact HO238.out) (Kd.R_base ho0) hb); have n1_ := Aside0.mk (Kd.R_elder' (by (with_reducible repeat (first | apply Kd.R_alloc | apply Kd.R_drewN | apply Kd.R_drew)); exact HO241.out) (Kd.R_base ho0) hb); have n2_ := Aside0.mk (Kd.S_elder' (by (with_reducible repeat (first | apply Kd.S_alloc | apply Kd.S_drewN | apply Kd.S_drew)); exact HO245.out) (Kd.R_base ho0) hb); have n3_ := Aside0.mk (Kd.R_lower (Kd.R_new' ho0 (Kd.R_lt (by (with_reducible repeat (first | apply Kd.R_alloc | apply Kd.R_drewN | apply Kd.R_drew)); exact HO241.out))) (below_size (by repeat (first | (with_reducible first | exact HB.out | apply below_alloc | apply pw_below_drewN | apply below_drew1) | exact HB.out)))); have n4_ := Aside0.mk (below_step (by repeat (first | (with_reducible first | exact HB.out | apply below_alloc | apply pw_below_drewN | apply below_drew1) | exact HB.out)) hb); clear HO238; clear HO241; clear HO245; clear HB; have HO238 := n0_; have HO241 := n1_; have HO245 := n2_; have HO248 := n3_; have HB := n4_; clear n0_ n1_ n2_ n3_ n4_; (try clear hb); (try clear hb2); (try clear hk); (try clear hi); (try clear ho0); obtain ⟨Ao30, co30, eo30⟩ := Kd.S_slice HO245.out; subst eo30; obtain ⟨Ao31, co31, eo31⟩ := Kd.R_slice HO248.out; subst eo31) | ((with_reducible refine gate_callee (f := 42) rfl ?_); refine goesL_ (some 37) rfl rfl Try.func42 (by kernel_rfl) rfl #[.slice Ao30 t243.length co30, .int .i64 a1, .int .i64 a2, .slice Ao31 t246.length co31] rfl (by (try simp only [List.map_toArray, List.map_cons, List.map_nil]); first | done | rfl | (simp only [List.length_drop, List.length_take]; rfl)) ?_; (with_reducible refine (impl_HeardEnough.calls k _ _ t243 a1 a2 _ _ t246 t249 _ ?side1 ?side2 ?side3 ?side4 A14.out).mono ?_); (case side1 => repeat (first | exact (Kd.S_reads' HO245.out).2.2 | (with_reducible refine Kd.C_alloc ?_ _) | (with_reducible refine Kd.C_drewN ?_ _) | (with_reducible refine Kd.C_drew ?_))); (case side2 => exact (Kd.S_reads' HO245.out).2.1); (case side3 => repeat (first | exact (Kd.R_reads' HO248.out).2.2 | (with_reducible refine Kd.C_alloc ?_ _) | (with_reducible refine Kd.C_drewN ?_ _) | (with_reducible refine Kd.C_drew ?_))); (case side4 => exact (Kd.R_reads' HO248.out).2.1); rintro e w32 ⟨rfl, hb⟩; refine ⟨_, rfl, ?_⟩; have n0_ := Aside0.mk (Kd.S_below (by (with_reducible repeat (first | apply Kd.S_alloc | apply Kd.S_drewN | apply Kd.S_drew)); exact HO238.out) hb); have n1_ := Aside0.mk (Kd.R_below (by (with_reducible repeat (first | apply Kd.R_alloc | apply Kd.R_drewN | apply Kd.R_drew)); exact HO241.out) hb); have n2_ := Aside0.mk (Kd.S_below (by (with_reducible repeat (first | apply Kd.S_alloc | apply Kd.S_drewN | apply Kd.S_drew)); exact HO245.out) hb); have n3_ := Aside0.mk (Kd.R_below (by (with_reducible repeat (first | apply Kd.R_alloc | apply Kd.R_drewN | apply Kd.R_drew)); exact HO248.out) hb); have n4_ := Aside0.mk (below_step (by repeat (first | (with_reducible first | exact HB.out | apply below_alloc | apply pw_below_drewN | apply below_drew1) | exact HB.out)) hb); clear HO238; clear HO241; clear HO245; clear HO248; clear HB; have HO238 := n0_; have HO241 := n1_; have HO245 := n2_; have HO248 := n3_; have HB := n4_; clear n0_ n1_ n2_ n3_ n4_; (try clear hb); (try clear hb2); (try clear hk); (try clear hi)) | ((with_reducible refine gate_callee (f := 29) rfl ?_); refine goesL_ (some 43) rfl rfl Try.func29 (by kernel_rfl) rfl #[.slice A0 l0.length c0] rfl (by (try simp only [List.map_toArray, List.map_cons, List.map_nil]); first | done | rfl | (simp only [List.length_drop, List.length_take]; rfl)) ?_; (with_reducible refine (laws_toIntervalS.calls k _ _ l0 t250 _ ?side1 ?side2 A16.out).mono ?_); (case side1 => repeat (first | exact (Kd.C_below HR0.out HB.out) | (with_reducible refine Kd.C_alloc ?_ _) | (with_reducible refine Kd.C_drewN ?_ _) | (with_reducible refine Kd.C_drew ?_))); (case side2 => exact HC0.out); rintro e w33 ⟨v251, rfl, ho0, hb⟩; refine ⟨_, rfl, ?_⟩; have n0_ := Aside0.mk (Kd.S_elder' (by (with_reducible repeat (first | apply Kd.S_alloc | apply Kd.S_drewN | apply Kd.S_drew)); exact HO238.out) (Kd.S_base ho0) hb); have n1_ := Aside0.mk (Kd.R_below (by (with_reducible repeat (first | apply Kd.R_alloc | apply Kd.R_drewN | apply Kd.R_drew)); exact HO241.out) hb); have n2_ := Aside0.mk (Kd.S_elder' (by (with_reducible repeat (first | apply Kd.S_alloc | apply Kd.S_drewN | apply Kd.S_drew)); exact HO245.out) (Kd.S_base ho0) hb); have n3_ := Aside0.mk (Kd.R_below (by (with_reducible repeat (first | apply Kd.R_alloc | apply Kd.R_drewN | apply Kd.R_drew)); exact HO248.out) hb); have n4_ := Aside0.mk (Kd.S_lower (Kd.S_new' (Kd.S_new' (Kd.S_new' (Kd.S_new' ho0 (Kd.S_lt (by (with_reducible repeat (first | apply Kd.S_alloc | apply Kd.S_drewN | apply Kd.S_drew)); exact HO238.out))) (Kd.R_lt (by (with_reducible repeat (first | apply Kd.R_alloc | apply Kd.R_drewN | apply Kd.R_drew)); exact HO241.out))) (Kd.S_lt (by (with_reducible repeat (first | apply Kd.S_alloc | apply Kd.S_drewN | apply Kd.S_drew)); exact HO245.out))) (Kd.R_lt (by (with_reducible repeat (first | apply Kd.R_alloc | apply Kd.R_drewN | apply Kd.R_drew)); exact HO248.out))) (below_size (by repeat (first | (with_reducible first | exact HB.out | apply below_alloc | apply pw_below_drewN | apply below_drew1) | exact HB.out)))); have n5_ := Aside0.mk (below_step (by repeat (first | (with_reducible first | exact HB.out | apply below_alloc | apply pw_below_drewN | apply below_drew1) | exact HB.out)) hb); clear HO238; clear HO241; clear HO245; clear HO248; clear HB; have HO238 := n0_; have HO241 := n1_; have HO245 := n2_; have HO248 := n3_; have HO252 := n4_; have HB := n5_; clear n0_ n1_ n2_ n3_ n4_ n5_; (try clear hb); (try clear hb2); (try clear hk); (try clear hi); (try clear ho0); obtain ⟨Ao34, co34, eo34⟩ := Kd.S_slice HO252.out; subst eo34) | ((with_reducible refine gate_callee (f := 31) rfl ?_); refine goesL_ (some 44) rfl rfl Try.func31 (by kernel_rfl) rfl #[.slice Ao30 t243.length co30, .slice Ao34 t250.length co34] rfl (by (try simp only [List.map_toArray, List.map_cons, List.map_nil]); first | done | rfl | (simp only [List.length_drop, List.length_take]; rfl)) ?_; (with_reducible refine (laws_eqIntervalS.calls k _ _ t243 _ _ t250 true _ ?side1 ?side2 ?side3 ?side4 A17.out).mono ?_); (case side1 => repeat (first | exact (Kd.S_reads' HO245.out).2.2 | (with_reducible refine Kd.C_alloc ?_ _) | (with_reducible refine Kd.C_drewN ?_ _) | (with_reducible refine Kd.C_drew ?_))); (case side2 => exact (Kd.S_reads' HO245.out).2.1); (case side3 => repeat (first | exact (Kd.S_reads' HO252.out).2.2 | (with_reducible refine Kd.C_alloc ?_ _) | (with_reducible refine Kd.C_drewN ?_ _) | (with_reducible refine Kd.C_drew ?_))); (case side4 => exact (Kd.S_reads' HO252.out).2.1); rintro e w35 ⟨rfl, hb⟩; refine ⟨_, rfl, ?_⟩; have n0_ := Aside0.mk (Kd.S_below (by (with_reducible repeat (first | apply Kd.S_alloc | apply Kd.S_drewN | apply Kd.S_drew)); exact HO238.out) hb); have n1_ := Aside0.mk (Kd.R_below (by (with_reducible repeat (first | apply Kd.R_alloc | apply Kd.R_drewN | apply Kd.R_drew)); exact HO241.out) hb); have n2_ := Aside0.mk (Kd.S_below (by (with_reducible repeat (first | apply Kd.S_alloc | apply Kd.S_drewN | apply Kd.S_drew)); exact HO245.out) hb); have n3_ := Aside0.mk (Kd.R_below (by (with_reducible repeat (first | apply Kd.R_alloc | apply Kd.R_drewN | apply Kd.R_drew)); exact HO248.out) hb); have n4_ := Aside0.mk (Kd.S_below (by (with_reducible repeat (first | apply Kd.S_alloc | apply Kd.S_drewN | apply Kd.S_drew)); exact HO252.out) hb); have n5_ := Aside0.mk (below_step (by repeat (first | (with_reducible first | exact HB.out | apply below_alloc | apply pw_below_drewN | apply below_drew1) | exact HB.out)) hb); clear HO238; clear HO241; clear HO245; clear HO248; clear HO252; clear HB; have HO238 := n0_; have HO241 := n1_; have HO245 := n2_; have HO248 := n3_; have HO252 := n4_; have HB := n5_; clear n0_ n1_ n2_ n3_ n4_ n5_; (try clear hb); (try clear hb2); (try clear hk); (try clear hi)) | ((with_reducible refine gate_callee (f := 14) rfl ?_); refine goesL_ (some 48) rfl rfl Try.func14 (by kernel_rfl) rfl #[.slice A3 l3.length c3] rfl (by (try simp only [List.map_toArray, List.map_cons, List.map_nil]); first | done | rfl | (simp only [List.length_drop, List.length_take]; rfl)) ?_; (with_reducible refine (laws_toInt64S.calls k _ _ l3 t254 _ ?side1 ?side2 A19.out).mono ?_); (case side1 => repeat (first | exact (Kd.C_below HR3.out HB.out) | (with_reducible refine Kd.C_alloc ?_ _) | (with_reducible refine Kd.C_drewN ?_ _) | (with_reducible refine Kd.C_drew ?_))); (case side2 => exact HC3.out); rintro e w36 ⟨v255, rfl, ho0, hb⟩; refine ⟨_, rfl, ?_⟩; have n0_ := Aside0.mk (Kd.S_elder' (by (with_reducible repeat (first | apply Kd.S_alloc | apply Kd.S_drewN | apply Kd.S_drew)); exact HO238.out) (Kd.R_base ho0) hb); have n1_ := Aside0.mk (Kd.R_elder' (by (with_reducible repeat (first | apply Kd.R_alloc | apply Kd.R_drewN | apply Kd.R_drew)); exact HO241.out) (Kd.R_base ho0) hb); have n2_ := Aside0.mk (Kd.S_elder' (by (with_reducible repeat (first | apply Kd.S_alloc | apply Kd.S_drewN | apply Kd.S_drew)); exact HO245.out) (Kd.R_base ho0) hb); have n3_ := Aside0.mk (Kd.R_elder' (by (with_reducible repeat (first | apply Kd.R_alloc | apply Kd.R_drewN | apply Kd.R_drew)); exact HO248.out) (Kd.R_base ho0) hb); have n4_ := Aside0.mk (Kd.S_elder' (by (with_reducible repeat (first | apply Kd.S_alloc | apply Kd.S_drewN | apply Kd.S_drew)); exact HO252.out) (Kd.R_base ho0) hb); have n5_ := Aside0.mk (Kd.R_lower (Kd.R_new' (Kd.R_new' ho0 (Kd.R_lt (by (with_reducible repeat (first | apply Kd.R_alloc | apply Kd.R_drewN | apply Kd.R_drew)); exact HO241.out))) (Kd.R_lt (by (with_reducible repeat (first | apply Kd.R_alloc | apply Kd.R_drewN | apply Kd.R_drew)); exact HO248.out))) (below_size (by repeat (first | (with_reducible first | exact HB.out | apply below_alloc | apply pw_below_drewN | apply below_drew1) | exact HB.out)))); have n6_ := Aside0.mk (below_step (by repeat (first | (with_reducible first | exact HB.out | apply below_alloc | apply pw_below_drewN | apply below_drew1) | exact HB.out)) hb); clear HO238; clear HO241; clear HO245; clear HO248; clear HO252; clear HB; have HO238 := n0_; have HO241 := n1_; have HO245 := n2_; have HO248 := n3_; have HO252 := n4_; have HO256 := n5_; have HB := n6_; clear n0_ n1_ n2_ n3_ n4_ n5_ n6_; (try clear hb); (try clear hb2); (try clear hk); (try clear hi); (try clear ho0); obtain ⟨Ao37, co37, eo37⟩ := Kd.R_slice HO256.out; subst eo37) | ((with_reducible refine gate_callee (f := 16) rfl ?_); refine goesL_ (some 49) rfl rfl Try.func16 (by kernel_rfl) rfl #[.slice Ao31 t246.length co31, .slice Ao37 t254.length co37] rfl (by (try simp only [List.map_toArray, List.map_cons, List.map_nil]); first | done | rfl | (simp only [List.length_drop, List.length_take]; rfl)) ?_; (with_reducible refine (laws_eqInt64S.calls k _ _ t246 _ _ t254 true _ ?side1 ?side2 ?side3 ?side4 A20.out).mono ?_); (case side1 => repeat (first | exact (Kd.R_reads' HO248.out).2.2 | (with_reducible refine Kd.C_alloc ?_ _) | (with_reducible refine Kd.C_drewN ?_ _) | (with_reducible refine Kd.C_drew ?_))); (case side2 => exact (Kd.R_reads' HO248.out).2.1); (case side3 => repeat (first | exact (Kd.R_reads' HO256.out).2.2 | (with_reducible refine Kd.C_alloc ?_ _) | (with_reducible refine Kd.C_drewN ?_ _) | (with_reducible refine Kd.C_drew ?_))); (case side4 => exact (Kd.R_reads' HO256.out).2.1); rintro e w' ⟨rfl, ⟨nd, rfl⟩⟩; refine ⟨_, rfl, ?_⟩))
            go_ret
            exact ⟨by first | rfl | (simp [errW_none, errW_some] <;> rfl) | (simp [*, errW_none, errW_some] <;> rfl), by repeat (first | (with_reducible first | exact HB.out | apply below_alloc | apply pw_below_drewN | apply below_drew1) | exact HB.out)⟩
          · replace c21 := Bool.eq_false_iff.mpr c21
            subst c21
            have H1 : (some false) = some r := by rw [if_neg (show ¬ (false = true) by decide)] at H; exact H
            clear H
            have H := H1
            clear H1
            exact absurd ((Option.some.inj H).trans hT.out) (by decide)
        · replace c18 := Bool.eq_false_iff.mpr c18
          subst c18
          have H1 : (some false) = some r := by rw [if_neg (show ¬ (false = true) by decide)] at H; exact H
          clear H
          have H := H1
          clear H1
          exact absurd ((Option.some.inj H).trans hT.out) (by decide)

end Go.Proofs.Ytfeaokelfbjcdaa.MFnExactHeardEnough
