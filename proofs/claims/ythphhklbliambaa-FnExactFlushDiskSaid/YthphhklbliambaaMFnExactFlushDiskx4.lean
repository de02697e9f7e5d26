-- Written by a program of this session (wip/tools/myprint.py) over the kit's print: it is not the kit's print.
import Derived.Test.YthphhklbliambaaExtra
import Derived.Lib.SliceRun
import Derived.Test.YthphhklbliambaaMFnExactFlushDiskx0
import Derived.Test.YthphhklbliambaaMFnExactFlushDiskx3
namespace Go.Proofs.Ythphhklbliambaa.MFnExactFlushDisk
open Go.RowKit Go.Proofs.YthphhklbliambaaW.PrintWords Go.Proofs.YthphhklbliambaaW.PrintLast Go.Proofs.YthphhklbliambaaW.PrintMore
attribute [local go_sem] max2_int min2_int max_two min_two max_three min_three max_four min_four   -- for this text's walks alone
set_option linter.unusedVariables false
set_option linter.unusedSimpArgs false

/-! ### impl_DiskOk: function 18 -/
set_option maxHeartbeats 4000000 in
set_option maxRecDepth 100000 in
theorem impl_DiskOk.index (b1 : Addr) (p : S55 → Bool) (A0 : Option Addr) (c0 : Nat) (l0 : List S55) (w : World) (hr0 : Kd.C k55 w A0 l0.length l0)
    (hp : ∀ (W : World) (x : S55) , Below w.heap.size w W → x ∈ l0 → Calls Try.prog 63 #[.agg #[.int .i64 x.f0, .string x.f1], .pointer (some b1)] W fun e w' => e = .returned (.bool (p x)) ∧ Below w.heap.size w w') :
    Calls Try.prog 104 #[.slice A0 l0.length c0, .func (.func 63) #[] #[.pointer (some b1)]] w fun e w' => e = .returned (.int .i64 (idxP p l0 0)) ∧ Below w.heap.size w w' := by
  have HR0 := Aside0.mk hr0
  have HP := Aside0.mk hp
  have hm : l0.length ≤ 9223372036854775807 := hr0.2.1
  clear hr0 hp
  go_enter Try.func104, Try.ntmps104
  go_wp2
  go_loopg [5, 8] l0.length (fun gg _ s8 wr => ∃ kk : Nat, kk ≤ l0.length ∧ l0.length - kk ≤ gg ∧ s8 = .int .i64 kk ∧ Aside0 (Below w.heap.size w wr) ∧ Aside0 (idxP p l0 0 = idxP p (l0.drop kk) kk))
  case atStart => exact ⟨0, Nat.zero_le _, by omega, rfl, ⟨Below.refl _ w⟩, ⟨rfl⟩⟩
  case round =>
    obtain ⟨kk, hkk, hg, rfl, BW, AI⟩ := hrel
    by_cases hlt : kk < l0.length
    · have hltz : (kk : Int) < (l0.length : Int) := by omega
      obtain ⟨ad, e, hx0, hx1⟩ := at_T55 HR0.out (kk : Int) (by omega) hltz
      cases e
      rw [Int.toNat_natCast] at hx0
      replace hx0 := (BW.out.cell (World.block_lt_of_cell? w _ hx0)).trans hx0
      rw [Int.toNat_natCast] at hx1
      replace hx1 := (BW.out.cell (World.block_lt_of_cell? w _ hx1)).trans hx1
      have HE : Aside0 (rd_T55 l0 (kk : Int) = l0[kk]) := ⟨by simp [rd_T55, List.getD_eq_getElem?_getD, List.getElem?_eq_getElem hlt]⟩
      have hcall := HP.out wr (rd_T55 l0 (kk : Int))  BW.out (by rw [HE.out]; exact List.getElem_mem hlt)
      have HD := Aside0.mk (idxP_drop p l0 kk hlt)
      generalize rd_T55 l0 (kk : Int) = y at hx0 hx1 hcall HE
      cases hq : p y with
      | true =>
        rw [hq] at hcall
        have HQ := Aside0.mk hq
        clear hq
        go_wp2_with (go_at_call 63; refine hcall.mono ?_; rintro e w' ⟨rfl, hb'⟩)
        go_ret
        refine ⟨?_, hb'⟩
        rw [AI.out, HD.out, ← HE.out, if_pos HQ.out]
        rfl
      | false =>
        rw [hq] at hcall
        have HQ := Aside0.mk hq
        clear hq
        go_wp2_with (go_at_call 63; refine hcall.mono ?_; rintro e w' ⟨rfl, hb'⟩)
        go_roundg (l0.length - (kk + 1))
        case measure => omega
        case rel => exact ⟨kk + 1, by omega, by omega, by go_num, ⟨hb'⟩, ⟨by rw [AI.out, HD.out, ← HE.out, HQ.out]; rfl⟩⟩
    · have hltz : ¬ (kk : Int) < (l0.length : Int) := by omega
      go_wp2
      go_ret
      refine ⟨?_, BW.out⟩
      rw [AI.out, List.drop_of_length_le (by omega)]
      rfl
set_option maxHeartbeats 2000000 in
theorem impl_DiskOk.contains (b1 : Addr) (p : S55 → Bool) (A0 : Option Addr) (c0 : Nat) (l0 : List S55) (w : World) (hr0 : Kd.C k55 w A0 l0.length l0)
    (hp : ∀ (W : World) (x : S55) , Below w.heap.size w W → x ∈ l0 → Calls Try.prog 63 #[.agg #[.int .i64 x.f0, .string x.f1], .pointer (some b1)] W fun e w' => e = .returned (.bool (p x)) ∧ Below w.heap.size w w') :
    Calls Try.prog 62 #[.slice A0 l0.length c0, .func (.func 63) #[] #[.pointer (some b1)]] w fun e w' => e = .returned (.bool (l0.any p)) ∧ Below w.heap.size w w' := by
  have HI := impl_DiskOk.index b1 p A0 c0 l0 w hr0 hp
  have HQ := Aside0.mk (idxP_dec p l0)
  clear hr0 hp
  generalize idxP p l0 0 = q at HI HQ
  generalize l0.any p = b at HQ
  go_enter Try.func62, Try.ntmps62
  go_wp2_with (go_at_call 104; refine HI.mono ?_; rintro e w' ⟨rfl, hb⟩)
  go_ret
  exact ⟨by rw [← HQ.out]; rfl, hb⟩
/-- A write that waits is one to a sector, of a sector's length. -/
def impl_DiskOk.wait (n : Nat) (p : S55) : Bool := decide (0 ≤ p.f0 ∧ p.f0 ≤ (n : Int) - 1) && ((p.f1.size : Int) == 64)
def impl_DiskOk.f (l0_0 : List ByteArray) (l0_1 : List S55) : Option Bool :=
  some (((decide ((1 : Int) ≤ (l0_0.length : Int) ∧ (l0_0.length : Int) ≤ 1200) && decide ((l0_1.length : Int) ≤ 600)) && l0_0.all fun s => ((s.size : Int) == 64)) && !l0_1.any fun p => !impl_DiskOk.wait l0_0.length p)
theorem impl_DiskOk.btw (a b c : Int) : impl_between.f a b c = some (decide (b ≤ a ∧ a ≤ c)) := by
  unfold impl_between.f
  by_cases h : a ≥ b
  · have h' : b ≤ a := h
    simp [h, h']
  · have h' : ¬ b ≤ a := h
    simp [h, h']
theorem impl_DiskOk.idx (a : Int) (n : Nat) (hn : n ≤ 9223372036854775807) : impl_isIndex.f a n = some (decide (0 ≤ a ∧ a ≤ (n : Int) - 1)) := by
  unfold impl_isIndex.f
  rw [impl_DiskOk.btw, show wrap64 ((n : Int) - 1) = (n : Int) - 1 by unfold wrap64; omega]
  rfl
set_option maxHeartbeats 2000000 in
theorem impl_DiskOk.pred (x : S55) (b : Addr) (A : Option Addr) (c n : Nat) (W : World) (hn : n ≤ 9223372036854775807) (hc : W.cell? b = some (.slice A n c)) :
    Calls Try.prog 63 #[.agg #[.int .i64 x.f0, .string x.f1], .pointer (some b)] W fun e w' => e = .returned (.bool (!impl_DiskOk.wait n x)) ∧ Below W.heap.size W w' := by
  have HI := impl_isIndex.calls x.f0 n (decide (0 ≤ x.f0 ∧ x.f0 ≤ (n : Int) - 1))
  have TI := Aside0.mk (impl_DiskOk.idx x.f0 n hn)
  have HS := impl_sectorOk.calls x.f1 ((x.f1.size : Int) == 64)
  have TS := Aside0.mk (show impl_sectorOk.f x.f1 = some ((x.f1.size : Int) == 64) from rfl)
  have HW : Aside0 (impl_DiskOk.wait n x = (decide (0 ≤ x.f0 ∧ x.f0 ≤ (n : Int) - 1) && ((x.f1.size : Int) == 64))) := ⟨rfl⟩
  generalize decide (0 ≤ x.f0 ∧ x.f0 ≤ (n : Int) - 1) = b1 at HI TI HW
  generalize ((x.f1.size : Int) == 64) = b2 at HS TS HW
  have hc' : (W.alloc (.cells #[.int .i64 x.f0, .string x.f1] 55)).cell? b = some (.slice A n c) := (((Below.refl W.heap.size W).alloc (Nat.le_refl _) _).cell (World.block_lt_of_cell? W _ hc)).trans hc
  have HB := Aside0.mk ((Below.refl W.heap.size W).alloc (Nat.le_refl _) (.cells #[.int .i64 x.f0, .string x.f1] 55))
  clear hc
  cases b1 <;> cases b2
  all_goals
    go_enter Try.func63, Try.ntmps63
    go_wp2_with (first | (go_at_call 64; refine (HI _ TI.out).mono ?_; rintro e w' ⟨rfl, ⟨q, rfl⟩⟩) | (go_at_call 61; refine (HS _ TS.out).mono ?_; rintro e w' ⟨rfl, ⟨q2, rfl⟩⟩))
    go_ret
    exact ⟨by rw [HW.out]; rfl, by repeat (first | exact HB.out | apply pw_below_drewN)⟩
set_option maxHeartbeats 4000000 in
set_option maxRecDepth 100000 in
theorem impl_DiskOk.calls (A0_0 : Option Addr) (c0_0 : Nat) (l0_0 : List ByteArray) (A0_1 : Option Addr) (c0_1 : Nat) (l0_1 : List S55) (r : Bool) (w : World) (hr0_0 : Kd.C Kd.string w A0_0 l0_0.length l0_0) (hc0_0 : l0_0.length ≤ c0_0) (hr0_1 : Kd.C k55 w A0_1 l0_1.length l0_1) (hc0_1 : l0_1.length ≤ c0_1) (h : impl_DiskOk.f l0_0 l0_1 = some r) :
    Calls Try.prog 18 #[.agg #[.slice A0_0 l0_0.length c0_0, .slice A0_1 l0_1.length c0_1]] w fun e w' => e = .returned (.bool r) ∧ Below w.heap.size w w' := by
  have hn : l0_0.length ≤ 9223372036854775807 := hr0_0.2.1
  have hn1 : l0_1.length ≤ 9223372036854775807 := hr0_1.2.1
  have HE := Aside0.mk (Option.some.inj h)
  clear h
  obtain ⟨W1, hW1⟩ : ∃ W1, W1 = w.alloc (.cells #[.slice A0_0 l0_0.length c0_0, .slice A0_1 l0_1.length c0_1] 30) := ⟨_, rfl⟩
  have hB : Below w.heap.size w W1 := by rw [hW1]; exact (Below.refl _ _).alloc (Nat.le_refl _) _
  have hz0 : W1.cell? ⟨w.heap.size, 0, none⟩ = some (.slice A0_0 l0_0.length c0_0) := by rw [hW1]; simp
  have hz1 : W1.cell? ⟨w.heap.size, 1, none⟩ = some (.slice A0_1 l0_1.length c0_1) := by rw [hW1]; simp
  have HI : Aside0 (∀ q, Calls Try.prog 62 #[.slice A0_1 l0_1.length c0_1, .func (.func 63) #[] #[.pointer (some ⟨w.heap.size, 0, none⟩)]] (W1.drewN q) fun e w' => e = .returned (.bool (l0_1.any fun p => !impl_DiskOk.wait l0_0.length p)) ∧ Below w.heap.size w w') := ⟨fun q => by
    have hq : Below W1.heap.size W1 (W1.drewN q) := pw_below_drewN (Below.refl _ _) q
    refine (impl_DiskOk.contains ⟨w.heap.size, 0, none⟩ (fun p => !impl_DiskOk.wait l0_0.length p) A0_1 c0_1 l0_1 (W1.drewN q) (Kd.C_below (Kd.C_below hr0_1 hB) hq) (fun W x hb _ => impl_DiskOk.pred x ⟨w.heap.size, 0, none⟩ A0_0 c0_0 l0_0.length W hn ?_ |>.mono fun e w' ⟨he, hw⟩ => ⟨he, hb.trans (hw.mono hb.size)⟩)).mono fun e w' ⟨he, hw⟩ => ⟨he, hB.trans ((hq.trans (hw.mono hq.size)).mono hB.size)⟩
    have hz := hz0
    exact (hb.cell (World.block_lt_of_cell? (W1.drewN q) _ hz)).trans hz⟩
  generalize (l0_1.any fun p => !impl_DiskOk.wait l0_0.length p) = AN at HI HE
  obtain ⟨AL, hAL⟩ : ∃ AL, AL = l0_0.all fun s => ((s.size : Int) == 64) := ⟨_, rfl⟩
  rw [← hAL] at HE
  have HAL := Aside0.mk hAL
  clear hAL hr0_1 hc0_1
  have HR0 := Aside0.mk hr0_0
  clear hr0_0 hc0_0
  have HT := impl_between.calls (l0_0.length : Int) 1 1200 (decide ((1 : Int) ≤ (l0_0.length : Int) ∧ (l0_0.length : Int) ≤ 1200))
  have TT := Aside0.mk (impl_DiskOk.btw (l0_0.length : Int) 1 1200)
  generalize decide ((1 : Int) ≤ (l0_0.length : Int) ∧ (l0_0.length : Int) ≤ 1200) = g1 at HT TT HE
  have HB := Aside0.mk hB
  have HW1 := Aside0.mk hW1
  have HZ0 := Aside0.mk hz0
  have HZ1 := Aside0.mk hz1
  clear hB hz0 hz1
  subst hW1
  cases g1 with
  | false =>
    go_enter Try.func18, Try.ntmps18
    go_wp2_with (go_at_call 60; refine (HT _ TT.out).mono ?_; rintro e w' ⟨rfl, ⟨q, rfl⟩⟩)
    go_ret
    exact ⟨by rw [← HE.out]; rfl, by repeat (first | exact HB.out | apply pw_below_drewN)⟩
  | true =>
    by_cases g2 : l0_1.length ≤ 600
    · have g2a : decide (600 < (l0_1.length : Int)) = false := decide_eq_false (by omega)
      have g2b : decide (600 < l0_1.length) = false := decide_eq_false (by omega)
      have G2 : Aside0 (decide ((l0_1.length : Int) ≤ 600) = true) := ⟨decide_eq_true (by omega)⟩
      clear g2
      go_enter Try.func18, Try.ntmps18
      go_wp2_with (go_at_call 60; refine (HT _ TT.out).mono ?_; rintro e w' ⟨rfl, ⟨q, rfl⟩⟩)
      go_loopg [19] l0_0.length (fun gg s19 wr => ∃ kk : Nat, kk ≤ l0_0.length ∧ l0_0.length - kk ≤ gg ∧ s19 = .int .i64 kk ∧ Aside0 (Drawn0 (w.alloc (.cells #[.slice A0_0 l0_0.length c0_0, .slice A0_1 l0_1.length c0_1] 30)) wr) ∧ Aside0 (AL = (l0_0.drop kk).all fun s => ((s.size : Int) == 64)))
      case atStart => exact ⟨0, Nat.zero_le _, by omega, rfl, ⟨⟨_, rfl⟩⟩, HAL⟩
      case round =>
        obtain ⟨kk, hkk, hg, rfl, BW, AI⟩ := hrel
        obtain ⟨q, hq⟩ := BW.out.out
        have hz0 : wr.cell? ⟨w.heap.size, 0, none⟩ = some (.slice A0_0 l0_0.length c0_0) := by rw [hq]; exact HZ0.out
        have hz1 : wr.cell? ⟨w.heap.size, 1, none⟩ = some (.slice A0_1 l0_1.length c0_1) := by rw [hq]; exact HZ1.out
        have HBW : Below w.heap.size w wr := by rw [hq]; exact pw_below_drewN HB.out q
        have HJ : Aside0 (Calls Try.prog 62 #[.slice A0_1 l0_1.length c0_1, .func (.func 63) #[] #[.pointer (some ⟨w.heap.size, 0, none⟩)]] wr fun e w' => e = .returned (.bool AN) ∧ Below w.heap.size w w') := ⟨by rw [hq]; exact HI.out q⟩
        clear hq
        by_cases hlt : kk < l0_0.length
        · have hltz : (kk : Int) < (l0_0.length : Int) := by omega
          obtain ⟨ad, e, hx0⟩ := Kd.at_string HR0.out (kk : Int) (by omega) hltz
          cases e
          rw [Int.toNat_natCast] at hx0
          replace hx0 := (HBW.cell (World.block_lt_of_cell? w _ hx0)).trans hx0
          have HEL : Aside0 (rdOf ByteArray.empty l0_0 (kk : Int) = l0_0[kk]) := ⟨by simp [rdOf, List.getD_eq_getElem?_getD, List.getElem?_eq_getElem hlt]⟩
          have HD : Aside0 (((l0_0.drop kk).all fun s => ((s.size : Int) == 64)) = (((l0_0[kk].size : Int) == 64) && ((l0_0.drop (kk + 1)).all fun s => ((s.size : Int) == 64)))) := ⟨by rw [List.drop_eq_getElem_cons hlt]; rfl⟩
          rw [← HEL.out] at HD
          clear HEL
          generalize rdOf ByteArray.empty l0_0 (kk : Int) = y at hx0 HD
          have HS := impl_sectorOk.calls y ((y.size : Int) == 64)
          have TS := Aside0.mk (show impl_sectorOk.f y = some ((y.size : Int) == 64) from rfl)
          generalize ((y.size : Int) == 64) = b2 at HS TS HD
          have HBW' := Aside0.mk HBW
          clear HBW
          cases b2 with
          | false =>
            go_wp2_with (go_at_call 61; refine (HS _ TS.out).mono ?_; rintro e w' ⟨rfl, ⟨q2, rfl⟩⟩)
            go_ret
            exact ⟨by rw [← HE.out, AI.out, HD.out]; simp, by repeat (first | exact HBW'.out | apply pw_below_drewN)⟩
          | true =>
            go_wp2_with (go_at_call 61; refine (HS _ TS.out).mono ?_; rintro e w' ⟨rfl, ⟨q2, rfl⟩⟩)
            go_roundg (l0_0.length - (kk + 1))
            case measure => omega
            case rel => exact ⟨kk + 1, by omega, by omega, by go_num, ⟨BW.out.step q2⟩, ⟨by rw [AI.out, HD.out]; rfl⟩⟩
        · have hltz : ¬ (kk : Int) < (l0_0.length : Int) := by omega
          have HD : Aside0 (AL = true) := ⟨by rw [AI.out, List.drop_of_length_le (by omega)]; rfl⟩
          clear HBW AI
          go_wp2_with (go_at_call 62; refine HJ.out.mono ?_; rintro e w' ⟨rfl, hb⟩)
          go_ret
          exact ⟨by rw [← HE.out, HD.out, G2.out]; simp, hb⟩
    · have g2a : decide (600 < (l0_1.length : Int)) = true := decide_eq_true (by omega)
      have g2b : decide (600 < l0_1.length) = true := decide_eq_true (by omega)
      have G2 : Aside0 (decide ((l0_1.length : Int) ≤ 600) = false) := ⟨decide_eq_false (by omega)⟩
      clear g2
      go_enter Try.func18, Try.ntmps18
      go_wp2_with (go_at_call 60; refine (HT _ TT.out).mono ?_; rintro e w' ⟨rfl, ⟨q, rfl⟩⟩)
      go_ret
      exact ⟨by rw [← HE.out, G2.out]; simp, by repeat (first | exact HB.out | apply pw_below_drewN)⟩

/-! ### slices_Clone_string_string: function 107 -/
def slices_Clone_string_string.f (l0 : List ByteArray) : Option (List ByteArray) := if l0.length < 8796093022208 then some l0 else none
set_option maxHeartbeats 8000000 in
set_option maxRecDepth 100000 in
theorem slices_Clone_string_string.calls (A0 : Option Addr) (c0 : Nat) (l0 : List ByteArray) (r : List ByteArray) (w : World) (hr0 : Kd.C Kd.string w A0 l0.length l0) (hc0 : l0.length ≤ c0) (h : slices_Clone_string_string.f l0 = some r) :
    Calls Try.prog 107 #[.slice A0 l0.length c0] w fun e w' => ∃ v0_ : Value, e = .returned (v0_) ∧ Kd.R Kd.string 9 w' w.heap.size (fun _ => True) v0_ r ∧ Below w.heap.size w w' := by
  have c2 : l0.length < 8796093022208 := by
    by_cases c2 : l0.length < 8796093022208
    · exact c2
    · rw [slices_Clone_string_string.f, if_neg c2] at h; exact absurd h (by simp)
  rw [slices_Clone_string_string.f, if_pos c2] at h
  obtain rfl := Option.some.inj h
  clear h
  have q22 : ∀ (w : World) (a : Option Addr) (n c n' c' : Nat), (binOp .eql 22 (.slice a n c) (.slice none n' c')).run Try.prog w = .ok (.bool a.isNone) w := fun w a n c n' c' => Lib.run_eql_slice_nil w _ _ a n c n' c' Try.underlying22
  cases A0 with
  | none =>
    have hz : l0 = [] := by
      cases l0 with
      | nil => rfl
      | cons x xs =>
        obtain ⟨ad, hA, _⟩ := hr0.2.2 (by simp)
        cases hA
    subst hz
    clear hr0 hc0 c2
    go_enter Try.func107, Try.ntmps107
    go_wp2
    go_ret
    exact ⟨_, rfl, Kd.R_nil _ _ _ _ _, Below.refl _ _⟩
  | some A =>
    have HR0 := Aside0.mk hr0
    have HC0 := Aside0.mk hc0
    clear hr0 hc0
    have LMc2 := Aside0.mk c2
    clear c2
    have HB := Aside0.mk (Below.refl w.heap.size w)
    go_enter Try.func107, Try.ntmps107
    go_wp2_with (first | ((with_reducible refine gate_dst (N := 5) rfl ?_); refine Kd.R_lit Kd.string _ 9 ?hg (N := 5) ?hd (xs := ([] : List ByteArray)) (inner := []) (ok := fun _ => True) (okp := fun _ => True) ?hr ?hp (fun _ hk => hk) trivial (Below.refl _ _) (Nat.le_refl _) (by simp) ?_; (case hd => rfl); (case hg => rfl); (case hr => first | (go_simp; done) | (go_simp; rfl)); (case hp => exact (Reps.none _ _)); intro v351 w3 ho4 hb hg_ hnew_; clear hg_ hnew_; have n0_ := Aside0.mk (Kd.R_lower ho4 (below_size HB.out)); have n1_ := Aside0.mk (below_step HB.out hb); clear HB; have HO352 := n0_; have HB := n1_; clear n0_ n1_; clear hb ho4) | ((with_reducible refine gate_builtin (b := .append) (xs := #[.tmp 5, .tmp 6]) rfl ?_); at_builtin; refine Kd.R_append_rows Kd.string (w0 := w) w.heap.size rfl (.tmp 5) (.tmp 6) 22 9 (.string ⟨#[]⟩) 16 rfl Try.underlying22 info9 rfl (by decide) (by omega) v351 [] l0 _ _ _ (fun _ => True) (fun _ => False) rfl rfl ?aO ?aR (fun _ _ h => h) (fun _ h => h.elim) ?aF ?aB ?aS ?aL ?_; (case aR => exact (Kd.C_below HR0.out HB.out)); (case aB => exact HB.out); (case aF => exact (fun _ _ => trivial)); (case aO => exact HO352.out); (case aS => exact (below_size HB.out)); (case aL => have := LMc2.out; simp only [List.length_nil]; omega); intro v354 w5 ho hb hg hat; have n0_ := Aside0.mk (hb); have n1_ := Aside0.mk (ho); clear HB; clear HO352; have HB := n0_; have HO355 := n1_; clear n0_ n1_; clear ho hb hg hat))
    go_ret
    exact ⟨_, rfl, by simpa using HO355.out, HB.out⟩


/-! ### impl_Disk_flushed: function 70 -/
def impl_Disk_flushed.l0 : Nat → List ByteArray → List (S55) → Int → Int → Option (List ByteArray × (List (S55)))
  | 0, _, _, _, _ => none
  | k + 1, x3, x10, x11, x12 => if x12 < x11 then (if 0 ≤ x12 then (if x12 < (x10.length : Int) then (if 0 ≤ ((rd_T55 x10 x12).f0) then (if ((rd_T55 x10 x12).f0) < (x3.length : Int) then (impl_Disk_flushed.l0 k (x3.set (((rd_T55 x10 x12).f0) : Int).toNat ((rd_T55 x10 x12).f1)) x10 x11 (wrap64 (x12 + 1))) else (none)) else (none)) else (none)) else (none)) else (some (x3, ([] : List (S55))))
def impl_Disk_flushed.f (k : Nat) (l0_0 : List ByteArray) (l0_1 : List (S55)) : Option (List ByteArray × (List (S55))) := (slices_Clone_string_string.f l0_0).bind fun t172 => (impl_Disk_flushed.l0 k t172 l0_1 (l0_1.length : Int) 0)
theorem impl_Disk_flushed.mono_l : ∀ k, (∀ y0 y1 y2 y3, LeO (impl_Disk_flushed.l0 k y0 y1 y2 y3) (impl_Disk_flushed.l0 (k + 1) y0 y1 y2 y3))
  | 0 => fun _ _ _ _ r h => by simp [impl_Disk_flushed.l0] at h
  | k + 1 => by
    have ih0 := impl_Disk_flushed.mono_l k
    · intro y0 y1 y2 y3
      unfold impl_Disk_flushed.l0
      repeat' first
      | (with_reducible exact ih0 _ _ _ _)
      | (with_reducible exact LeO.refl _)
      | (with_reducible exact LeO.none _)
      | (with_reducible refine LeO.ite ?_ ?_)
      | (with_reducible refine LeO.bind ?_ (fun _ => ?_))
      | exact ih0 _ _ _ _
      | exact LeO.none _
      | refine LeO.ite ?_ ?_
      | refine LeO.bind ?_ (fun _ => ?_)
theorem impl_Disk_flushed.mono : ∀ a0 a1 k, LeO (impl_Disk_flushed.f k a0 a1) (impl_Disk_flushed.f (k + 1) a0 a1) := by
  intro a0 a1 k
  have ih0 := impl_Disk_flushed.mono_l k
  unfold impl_Disk_flushed.f
  repeat' first
      | (with_reducible exact ih0 _ _ _ _)
      | (with_reducible exact LeO.refl _)
      | (with_reducible exact LeO.none _)
      | (with_reducible refine LeO.ite ?_ ?_)
      | (with_reducible refine LeO.bind ?_ (fun _ => ?_))
      | exact ih0 _ _ _ _
      | exact LeO.none _
      | refine LeO.ite ?_ ?_
      | refine LeO.bind ?_ (fun _ => ?_)
set_option maxHeartbeats 8000000 in
set_option maxRecDepth 100000 in
theorem impl_Disk_flushed.calls (k : Nat) (A0_0 : Option Addr) (c0_0 : Nat) (l0_0 : List ByteArray) (A0_1 : Option Addr) (c0_1 : Nat) (l0_1 : List (S55)) (r1 : List ByteArray) (r2 : List (S55)) (w : World) (hr0_0 : Kd.C Kd.string w A0_0 l0_0.length l0_0) (hc0_0 : l0_0.length ≤ c0_0) (hr0_1 : Kd.C k55 w A0_1 l0_1.length l0_1) (hc0_1 : l0_1.length ≤ c0_1) (h : impl_Disk_flushed.f k l0_0 l0_1 = some (r1, r2)) :
    Calls Try.prog 70 #[.agg #[.slice A0_0 l0_0.length c0_0, .slice A0_1 l0_1.length c0_1]] w fun e w' => ∃ v0_ v1_ : Value, e = .returned (.agg #[v0_, v1_]) ∧ Kd.R Kd.string 9 w' w.heap.size (fun _ => True) v0_ r1 ∧ Kd.R k55 55 w' w.heap.size (fun _ => True) v1_ r2 ∧ Below w.heap.size w w' := by
  have hu30 := Try.underlying30
  have hu55 := Try.underlying55
  have HR0_0 := Aside0.mk hr0_0
  have HC0_0 := Aside0.mk hc0_0
  clear hr0_0 hc0_0
  have HR0_1 := Aside0.mk hr0_1
  have HC0_1 := Aside0.mk hc0_1
  clear hr0_1 hc0_1
  have HB := Aside0.mk (Below.refl w.heap.size w)
  have H : ((slices_Clone_string_string.f l0_0).bind fun t172 => (impl_Disk_flushed.l0 k t172 l0_1 (l0_1.length : Int) 0)) = some (r1, r2) := h
  clear h
  replace H := Option.bind_eq_some_iff.mp H
  obtain ⟨t172, A20, H⟩ := H
  replace H : (impl_Disk_flushed.l0 k t172 l0_1 (l0_1.length : Int) 0) = some (r1, r2) := H
  have A2 := Aside0.mk A20
  clear A20
  have H' := Aside0.mk H
  clear H
  go_enter Try.func70, Try.ntmps70
  go_wp2_with (first | ((with_reducible refine gate_dst (N := 1) rfl ?_); refine box_event ?hg (N := 1) ?hd (cs := #[.slice A0_0 l0_0.length c0_0, .slice A0_1 l0_1.length c0_1]) (t := 30) ?hr ?_; (case hd => rfl); (case hg => rfl); (case hr => first | (go_simp; done) | (go_simp; rfl)); intro gb170 hg w3 hbox hb; have n0_ := Aside0.mk (below_step (by repeat (first | (with_reducible first | exact HB.out | apply below_alloc | apply pw_below_drewN | apply below_drew1) | exact HB.out)) hb); have n1_ := Aside0.mk (hbox); have n2_ := Aside0.mk ((by rw [hg]; exact (below_size (by repeat (first | (with_reducible first | exact HB.out | apply below_alloc | apply pw_below_drewN | apply below_drew1) | exact HB.out))) : w.heap.size ≤ gb170)); have n3_ := Aside0.mk ((by rw [hg]; exact (below_size (by repeat (first | (with_reducible first | exact HB.out | apply below_alloc | apply pw_below_drewN | apply below_drew1) | exact HB.out))) : w.heap.size ≤ gb170)); clear HB; have HB := n0_; have BK170 := n1_; have GW170 := n2_; have GE170 := n3_; clear n0_ n1_ n2_ n3_; clear hb hbox hg) | ((with_reducible refine gate_dst (N := 2) rfl ?_); refine box_event ?hg (N := 2) ?hd (cs := #[.slice none 0 0, .slice none 0 0]) (t := 30) ?hr ?_; (case hd => rfl); (case hg => rfl); (case hr => first | (go_simp; done) | (go_simp; rfl)); intro gb171 hg w4 hbox hb; have n0_ := Aside0.mk (blk_below (g := gb170) (o := .cells #[.slice A0_0 l0_0.length c0_0, .slice A0_1 l0_1.length c0_1] 30 (0, 0)) (by (with_reducible repeat (first | refine blk_drewN ?_ _ | refine blk_drew ?_ | refine blk_alloc ?_ _)); exact BK170.out) hb); have n1_ := Aside0.mk (below_step (by repeat (first | (with_reducible first | exact HB.out | apply below_alloc | apply pw_below_drewN | apply below_drew1 | refine below_set ?_ GE170.out) | exact HB.out)) hb); have n2_ := Aside0.mk (hbox); have n3_ := Aside0.mk ((by rw [hg]; exact (below_size (by repeat (first | (with_reducible first | exact HB.out | apply below_alloc | apply pw_below_drewN | apply below_drew1 | refine below_set ?_ GE170.out) | exact HB.out))) : w.heap.size ≤ gb171)); have n4_ := Aside0.mk ((by rw [hg]; exact (below_size (by repeat (first | (with_reducible first | exact HB.out | apply below_alloc | apply pw_below_drewN | apply below_drew1 | refine below_set ?_ GE170.out) | exact HB.out))) : w.heap.size ≤ gb171)); have n5_ := Aside0.mk ((by rw [hg]; exact Nat.ne_of_lt (blk_lt (g := gb170) (o := .cells #[.slice A0_0 l0_0.length c0_0, .slice A0_1 l0_1.length c0_1] 30 (0, 0)) (by (with_reducible repeat (first | refine blk_drewN ?_ _ | refine blk_drew ?_ | refine blk_alloc ?_ _)); exact BK170.out)) : gb170 ≠ gb171)); have n6_ := Aside0.mk ((by rw [hg]; exact Nat.ne_of_gt (blk_lt (g := gb170) (o := .cells #[.slice A0_0 l0_0.length c0_0, .slice A0_1 l0_1.length c0_1] 30 (0, 0)) (by (with_reducible repeat (first | refine blk_drewN ?_ _ | refine blk_drew ?_ | refine blk_alloc ?_ _)); exact BK170.out)) : gb171 ≠ gb170)); clear BK170; clear HB; have BK170 := n0_; have HB := n1_; have BK171 := n2_; have GW171 := n3_; have GE171 := n4_; have NB170_171 := n5_; have NB171_170 := n6_; clear n0_ n1_ n2_ n3_ n4_ n5_ n6_; clear hb hbox hg; have hnb5 := NB170_171.out; have hnc5 := NB171_170.out; have hcz6_0 : w4.cell? ⟨gb170, 0, none⟩ = some (.slice A0_0 l0_0.length c0_0) := (blk_cell BK170.out 0).trans rfl; have hcz6_1 : w4.cell? ⟨gb170, 1, none⟩ = some (.slice A0_1 l0_1.length c0_1) := (blk_cell BK170.out 1).trans rfl; have hfz6_0 := blk_frozen BK170.out 0; have hfz6_1 := blk_frozen BK170.out 1) | ((with_reducible refine gate_callee (f := 107) rfl ?_); refine goesL_ (some 8) rfl rfl Try.func107 (by kernel_rfl) rfl #[.slice A0_0 l0_0.length c0_0] rfl (by (try simp only [List.map_toArray, List.map_cons, List.map_nil]); first | done | rfl | (simp only [List.length_drop, List.length_take]; rfl)) ?_; (with_reducible refine (slices_Clone_string_string.calls _ _ l0_0 t172 _ ?side1 ?side2 A2.out).mono ?_); (case side1 => repeat (first | exact (Kd.C_below HR0_0.out HB.out) | (with_reducible refine Kd.C_alloc ?_ _) | (with_reducible refine Kd.C_drewN ?_ _) | (with_reducible refine Kd.C_drew ?_))); (case side2 => exact HC0_0.out); rintro e w7 ⟨v173, rfl, ho0, hb⟩; refine ⟨_, rfl, ?_⟩; have n0_ := Aside0.mk (Kd.R_lower ho0 (below_size (by repeat (first | (with_reducible first | exact HB.out | apply below_alloc | apply pw_below_drewN | apply below_drew1 | refine below_set ?_ GE170.out | refine below_set ?_ GE171.out) | exact HB.out)))); have n1_ := Aside0.mk (blk_below (g := gb170) (o := .cells #[.slice A0_0 l0_0.length c0_0, .slice A0_1 l0_1.length c0_1] 30 (0, 0)) (by (with_reducible repeat (first | refine blk_drewN ?_ _ | refine blk_drew ?_ | refine blk_alloc ?_ _)); exact BK170.out) hb); have n2_ := Aside0.mk (blk_below (g := gb171) (o := .cells #[.slice none 0 0, .slice none 0 0] 30 (0, 0)) (by (with_reducible repeat (first | refine blk_drewN ?_ _ | refine blk_drew ?_ | refine blk_alloc ?_ _)); exact BK171.out) hb); have n3_ := Aside0.mk (below_step (by repeat (first | (with_reducible first | exact HB.out | apply below_alloc | apply pw_below_drewN | apply below_drew1 | refine below_set ?_ GE170.out | refine below_set ?_ GE171.out) | exact HB.out)) hb); clear BK170; clear BK171; clear HB; have HO174 := n0_; have BK170 := n1_; have BK171 := n2_; have HB := n3_; clear n0_ n1_ n2_ n3_; (try clear hb); (try clear hb2); (try clear hk); (try clear hi); (try clear ho0); have hcz8_0 : w7.cell? ⟨gb170, 0, none⟩ = some (.slice A0_0 l0_0.length c0_0) := (blk_cell BK170.out 0).trans rfl; have hcz8_1 : w7.cell? ⟨gb170, 1, none⟩ = some (.slice A0_1 l0_1.length c0_1) := (blk_cell BK170.out 1).trans rfl; have hfz8_0 := blk_frozen BK170.out 0; have hfz8_1 := blk_frozen BK170.out 1))
  go_loopg [12] k (fun kq v12 w' => ∃ (x3_1 : List ByteArray) (x12_1 : Int), v12 = .int .i64 x12_1 ∧ Aside0 (impl_Disk_flushed.l0 kq x3_1 l0_1 (l0_1.length : Int) x12_1 = some (r1, r2)) ∧ Aside0 (kq ≤ k) ∧ Aside0 (Kd.R Kd.string 9 w' w.heap.size (fun _ => True) v173 x3_1) ∧ Aside0 (w'.heap[gb170]? = some (.cells #[(.slice A0_0 l0_0.length c0_0), (.slice A0_1 l0_1.length c0_1)] 30 (0, 0))) ∧ Aside0 (w'.heap[gb171]? = some (.cells #[(.slice none 0 0), (.slice none 0 0)] 30 (0, 0))) ∧ Aside0 (Below w.heap.size w w'))
  case atStart => exact ⟨(t172), (0), (by first | rfl | (simp; done) | (simp [*]; done)), H', ⟨Nat.le_refl _⟩, ⟨by (with_reducible repeat (first | apply Kd.R_alloc | apply Kd.R_drewN | apply Kd.R_drew)); exact HO174.out⟩, ⟨by (with_reducible repeat (first | refine blk_drewN ?_ _ | refine blk_drew ?_ | refine blk_alloc ?_ _)); exact BK170.out⟩, ⟨by (with_reducible repeat (first | refine blk_drewN ?_ _ | refine blk_drew ?_ | refine blk_alloc ?_ _)); exact BK171.out⟩, ⟨by repeat (first | (with_reducible first | exact HB.out | apply below_alloc | apply pw_below_drewN | apply below_drew1 | refine below_set ?_ GE170.out | refine below_set ?_ GE171.out) | exact HB.out)⟩⟩
  case round =>
    clear H'
    try clear c1
    try clear p2
    try clear c5
    try clear c7
    try clear hcz6_0
    try clear hcz6_1
    try clear hcz8_0
    try clear hcz8_1
    try clear hfz6_0
    try clear hfz6_1
    try clear hfz8_0
    try clear hfz8_1
    obtain ⟨x3_1, x12_1, rfl, HA, HK1, HO_3, BK170, BK171, HB⟩ := hrel
    cases gk with
    | zero => exact absurd HA.out (by simp [impl_Disk_flushed.l0])
    | succ k1 =>
      have H := HA.out
      clear HA
      simp only [impl_Disk_flushed.l0] at H
      by_cases c9 : x12_1 < (l0_1.length : Int)
      · rw [if_pos c9] at H
        have c9b0 : decide (x12_1 < (l0_1.length : Int)) = true := decide_eq_true c9
        clear c9
        by_cases c10 : 0 ≤ x12_1
        · rw [if_pos c10] at H
          have c10b0 : decide (0 ≤ x12_1) = true := decide_eq_true c10
          clear c10
          by_cases c11 : x12_1 < (l0_1.length : Int)
          · rw [if_pos c11] at H
            have c11b0 : decide (x12_1 < (l0_1.length : Int)) = true := decide_eq_true c11
            clear c11
            by_cases c12 : 0 ≤ ((rd_T55 l0_1 x12_1).f0)
            · rw [if_pos c12] at H
              have c12b0 : decide (0 ≤ ((rd_T55 l0_1 x12_1).f0)) = true := decide_eq_true c12
              clear c12
              by_cases c13 : ((rd_T55 l0_1 x12_1).f0) < (x3_1.length : Int)
              · rw [if_pos c13] at H
                have c13b0 : decide (((rd_T55 l0_1 x12_1).f0) < (x3_1.length : Int)) = true := decide_eq_true c13
                clear c13
                obtain ⟨y177, hy177⟩ : ∃ y_ : List ByteArray, y_ = (x3_1.set (((rd_T55 l0_1 x12_1).f0) : Int).toNat ((rd_T55 l0_1 x12_1).f1)) := ⟨_, rfl⟩
                replace H : (impl_Disk_flushed.l0 k1 y177 l0_1 (l0_1.length : Int) (wrap64 (x12_1 + 1))) = some (r1, r2) := by first | (rw [hy177]; with_reducible exact H) | (have H2_ := (Option.bind_some _ _).symm.trans H; rw [hy177]; with_reducible exact H2_) | (have H2_ := (Option.bind_some _ _).symm.trans H; with_reducible exact H2_) | with_reducible exact H | (rw [hy177]; exact H) | exact H
                have Ny177 := Aside0.mk hy177
                clear hy177
                have H' := Aside0.mk H
                clear H
                have p175 : 0 ≤ (x12_1 : Int) := of_decide_eq_true (by first | (with_reducible assumption) | assumption)
                have q175 : x12_1 < (l0_1.length : Int) := of_decide_eq_true (by first | (with_reducible assumption) | assumption)
                obtain ⟨ad175, e175, hx175_0, hx175_1⟩ := at_T55 HR0_1.out x12_1 p175 q175
                cases e175
                replace hx175_0 := (HB.out.cell (World.block_lt_of_cell? w _ hx175_0)).trans hx175_0
                replace hx175_1 := (HB.out.cell (World.block_lt_of_cell? w _ hx175_1)).trans hx175_1
                replace p175 := eq_true p175
                replace q175 := eq_true q175
                go_wp2_with (first | ((with_reducible refine gate_dst (N := 5) rfl ?_); refine box_event ?hg (N := 5) ?hd (cs := #[.int .i64 0, .string (⟨#[]⟩ : ByteArray)]) (t := 55) ?hr ?_; (case hd => rfl); (case hg => rfl); (case hr => first | (go_simp; done) | (go_simp; rfl)); intro gb176 hg w15 hbox hb; have n0_ := Aside0.mk (Kd.R_below (by (with_reducible repeat (first | apply Kd.R_alloc | apply Kd.R_drewN | apply Kd.R_drew)); exact HO_3.out) hb); have n1_ := Aside0.mk (blk_below (g := gb170) (o := .cells #[.slice A0_0 l0_0.length c0_0, .slice (some ad175) l0_1.length c0_1] 30 (0, 0)) (by (with_reducible repeat (first | refine blk_drewN ?_ _ | refine blk_drew ?_ | refine blk_alloc ?_ _)); exact BK170.out) hb); have n2_ := Aside0.mk (blk_below (g := gb171) (o := .cells #[.slice none 0 0, .slice none 0 0] 30 (0, 0)) (by (with_reducible repeat (first | refine blk_drewN ?_ _ | refine blk_drew ?_ | refine blk_alloc ?_ _)); exact BK171.out) hb); have n3_ := Aside0.mk (below_step (by repeat (first | (with_reducible first | exact HB.out | apply below_alloc | apply pw_below_drewN | apply below_drew1 | refine below_set ?_ GE170.out | refine below_set ?_ GE171.out) | exact HB.out)) hb); have n4_ := Aside0.mk (hbox); have n5_ := Aside0.mk ((by rw [hg]; exact (below_size (by repeat (first | (with_reducible first | exact HB.out | apply below_alloc | apply pw_below_drewN | apply below_drew1 | refine below_set ?_ GE170.out | refine below_set ?_ GE171.out) | exact HB.out))) : w.heap.size ≤ gb176)); have n6_ := Aside0.mk ((by rw [hg]; exact (below_size (by repeat (first | (with_reducible first | exact HB.out | apply below_alloc | apply pw_below_drewN | apply below_drew1 | refine below_set ?_ GE170.out | refine below_set ?_ GE171.out) | exact HB.out))) : w.heap.size ≤ gb176)); have n7_ := Aside0.mk ((by rw [hg]; exact Nat.ne_of_lt (blk_lt (g := gb170) (o := .cells #[.slice A0_0 l0_0.length c0_0, .slice (some ad175) l0_1.length c0_1] 30 (0, 0)) (by (with_reducible repeat (first | refine blk_drewN ?_ _ | refine blk_drew ?_ | refine blk_alloc ?_ _)); exact BK170.out)) : gb170 ≠ gb176)); have n8_ := Aside0.mk ((by rw [hg]; exact Nat.ne_of_gt (blk_lt (g := gb170) (o := .cells #[.slice A0_0 l0_0.length c0_0, .slice (some ad175) l0_1.length c0_1] 30 (0, 0)) (by (with_reducible repeat (first | refine blk_drewN ?_ _ | refine blk_drew ?_ | refine blk_alloc ?_ _)); exact BK170.out)) : gb176 ≠ gb170)); have n9_ := Aside0.mk ((by rw [hg]; exact Nat.ne_of_lt (blk_lt (g := gb171) (o := .cells #[.slice none 0 0, .slice none 0 0] 30 (0, 0)) (by (with_reducible repeat (first | refine blk_drewN ?_ _ | refine blk_drew ?_ | refine blk_alloc ?_ _)); exact BK171.out)) : gb171 ≠ gb176)); have n10_ := Aside0.mk ((by rw [hg]; exact Nat.ne_of_gt (blk_lt (g := gb171) (o := .cells #[.slice none 0 0, .slice none 0 0] 30 (0, 0)) (by (with_reducible repeat (first | refine blk_drewN ?_ _ | refine blk_drew ?_ | refine blk_alloc ?_ _)); exact BK171.out)) : gb176 ≠ gb171)); clear HO_3; clear BK170; clear BK171; clear HB; have HO_3 := n0_; have BK170 := n1_; have BK171 := n2_; have HB := n3_; have BK176 := n4_; have GW176 := n5_; have GE176 := n6_; have NB170_176 := n7_; have NB176_170 := n8_; have NB171_176 := n9_; have NB176_171 := n10_; clear n0_ n1_ n2_ n3_ n4_ n5_ n6_ n7_ n8_ n9_ n10_; clear hb hbox hg; have hnb16 := NB176_170.out; have hnc16 := NB170_176.out; have hnb17 := NB176_171.out; have hnc17 := NB171_176.out; have hcz18_0 : w15.cell? ⟨gb176, 0, none⟩ = some (.int .i64 0) := (blk_cell BK176.out 0).trans rfl; have hcz18_1 : w15.cell? ⟨gb176, 1, none⟩ = some (.string (⟨#[]⟩ : ByteArray)) := (blk_cell BK176.out 1).trans rfl; have hfz18_0 := blk_frozen BK176.out 0; have hfz18_1 := blk_frozen BK176.out 1) | ((with_reducible refine gate_store (t := 55) (p := 5) rfl ?_); refine store_event (t := 55) (p := 5) (v := ?vo_w19) (w1 := ((w15.setCell ⟨gb176, 0, none⟩ (.int .i64 ((rd_T55 l0_1 x12_1).f0))).setCell ⟨gb176, 1, none⟩ (.string ((rd_T55 l0_1 x12_1).f1)))) ?hg ?ho ?hn ?hr ?_; (case ho => rfl); (case hg => rfl); (case hn => rfl); (case hr => first | (go_simp; done) | (go_simp; rfl)); intro w19 hw; have n0_ : Aside0 (Kd.R Kd.string 9 w19 w.heap.size (fun _ => True) v173 x3_1) := ⟨(by rw [hw]; exact (by (with_reducible repeat (first | apply Kd.R_alloc | apply Kd.R_drewN | apply Kd.R_drew)); exact Kd.R_mono (Kd.R_far (p := ⟨gb176, 1, none⟩) (Kd.R_far (p := ⟨gb176, 0, none⟩) (Kd.R_types HO_3.out BK176.out (by decide)) (fun _ hk => hk.2) (.int .i64 ((rd_T55 l0_1 x12_1).f0))) (fun _ hk => hk.2) (.string ((rd_T55 l0_1 x12_1).f1))) (fun _ hk => trivial)))⟩; have n1_ : Aside0 (w19.heap[gb170]? = some (.cells #[.slice A0_0 l0_0.length c0_0, .slice (some ad175) l0_1.length c0_1] 30 (0, 0))) := ⟨(by rw [hw]; exact (by (with_reducible repeat (first | refine blk_drewN ?_ _ | refine blk_drew ?_ | refine blk_alloc ?_ _)); refine blk_far ?_ NB170_176.out _; (with_reducible repeat (first | refine blk_drewN ?_ _ | refine blk_drew ?_ | refine blk_alloc ?_ _)); refine blk_far ?_ NB170_176.out _; (with_reducible repeat (first | refine blk_drewN ?_ _ | refine blk_drew ?_ | refine blk_alloc ?_ _)); exact BK170.out))⟩; have n2_ : Aside0 (w19.heap[gb171]? = some (.cells #[.slice none 0 0, .slice none 0 0] 30 (0, 0))) := ⟨(by rw [hw]; exact (by (with_reducible repeat (first | refine blk_drewN ?_ _ | refine blk_drew ?_ | refine blk_alloc ?_ _)); refine blk_far ?_ NB171_176.out _; (with_reducible repeat (first | refine blk_drewN ?_ _ | refine blk_drew ?_ | refine blk_alloc ?_ _)); refine blk_far ?_ NB171_176.out _; (with_reducible repeat (first | refine blk_drewN ?_ _ | refine blk_drew ?_ | refine blk_alloc ?_ _)); exact BK171.out))⟩; have n3_ : Aside0 (w19.heap[gb176]? = some (.cells #[.int .i64 ((rd_T55 l0_1 x12_1).f0), .string ((rd_T55 l0_1 x12_1).f1)] 55 (0, 0))) := ⟨(by rw [hw]; exact (by (with_reducible repeat (first | refine blk_drewN ?_ _ | refine blk_drew ?_ | refine blk_alloc ?_ _)); refine blk_put (cs := #[.int .i64 ((rd_T55 l0_1 x12_1).f0), .string (⟨#[]⟩ : ByteArray)]) ?_ 1 _ rfl; (with_reducible repeat (first | refine blk_drewN ?_ _ | refine blk_drew ?_ | refine blk_alloc ?_ _)); refine blk_put (cs := #[.int .i64 0, .string (⟨#[]⟩ : ByteArray)]) ?_ 0 _ rfl; (with_reducible repeat (first | refine blk_drewN ?_ _ | refine blk_drew ?_ | refine blk_alloc ?_ _)); exact BK176.out))⟩; have n4_ : Aside0 (Below w.heap.size w w19) := ⟨(by rw [hw]; exact (by repeat (first | (with_reducible first | exact HB.out | apply below_alloc | apply pw_below_drewN | apply below_drew1 | refine below_set ?_ GE170.out | refine below_set ?_ GE171.out | refine below_set ?_ GE176.out) | exact HB.out)))⟩; clear hw; clear HO_3; clear BK170; clear BK171; clear BK176; clear HB; have HO_3 := n0_; have BK170 := n1_; have BK171 := n2_; have BK176 := n3_; have HB := n4_; clear n0_ n1_ n2_ n3_ n4_; have hcz20_0 : w19.cell? ⟨gb176, 0, none⟩ = some (.int .i64 ((rd_T55 l0_1 x12_1).f0)) := (blk_cell BK176.out 0).trans rfl; have hcz20_1 : w19.cell? ⟨gb176, 1, none⟩ = some (.string ((rd_T55 l0_1 x12_1).f1)) := (blk_cell BK176.out 1).trans rfl; have hfz20_0 := blk_frozen BK176.out 0; have hfz20_1 := blk_frozen BK176.out 1; have p14 : 0 ≤ (((rd_T55 l0_1 x12_1).f0) : Int) := of_decide_eq_true (by first | (with_reducible assumption) | assumption); have q14 : (((rd_T55 l0_1 x12_1).f0) : Int) < ((x3_1.length : Int) : Int) := of_decide_eq_true (by first | (with_reducible assumption) | assumption); obtain ⟨go14, co14, eo14, gb14, gl14, cl14, HG14⟩ := Kd.R_form HO_3.out (by omega); (first | cases eo14 | (injection eo14 with ea_ en_ ec_; (first | subst ea_ | (injection ea_ with ea_; subst ea_)); subst ec_; clear en_)); have GB14 := Aside0.mk gb14; have GG14 := Aside0.mk HG14; clear gb14 gl14 HG14; obtain ⟨hx14_0, hf14_0⟩ := Kd.R_celln (⟨#[]⟩ : ByteArray) HO_3.out (((rd_T55 l0_1 x12_1).f0) : Int) p14 q14; replace p14 := eq_true p14; replace q14 := eq_true q14; obtain ⟨hy21_, hz21_⟩ := Kd.R_celln (⟨#[]⟩ : ByteArray) HO_3.out (((rd_T55 l0_1 x12_1).f0) : Int) (of_decide_eq_true (by first | (with_reducible assumption) | assumption)) (of_decide_eq_true (by first | (with_reducible assumption) | assumption)); have HP21 := Kd.R_putg HO_3.out (((rd_T55 l0_1 x12_1).f0) : Int) ((rd_T55 l0_1 x12_1).f1)) | ((with_reducible refine gate_store (t := 9) (p := 21) rfl ?_); refine store_event (t := 9) (p := 21) (v := ?vo_w22) (w1 := (w19.setCell ⟨go14, (((rd_T55 l0_1 x12_1).f0) : Int).toNat, none⟩ (.string ((rd_T55 l0_1 x12_1).f1)))) ?hg ?ho ?hn ?hr ?_; (case ho => rfl); (case hg => rfl); (case hn => rfl); (case hr => first | (go_simp; done) | (go_simp; rfl)); intro w22 hw; have hg : w19.grownBy w22 (some go14) := (by rw [hw]; exact HP21.2); have hp_ : Kd.R Kd.string 9 w22 w.heap.size (fun _ => True) (.slice (some ⟨go14, 0, none⟩) x3_1.length co14) y177 := (by rw [hw, Ny177.out]; exact HP21.1); clear HP21; have n0_ := Aside0.mk (hp_); have n1_ := Aside0.mk (blk_grown (g := gb170) (o := .cells #[.slice A0_0 l0_0.length c0_0, .slice (some ad175) l0_1.length c0_1] 30 (0, 0)) (by (with_reducible repeat (first | refine blk_drewN ?_ _ | refine blk_drew ?_ | refine blk_alloc ?_ _)); exact BK170.out) hg (Kd.R_ne HO_3.out BK170.out (by decide))); have n2_ := Aside0.mk (blk_grown (g := gb171) (o := .cells #[.slice none 0 0, .slice none 0 0] 30 (0, 0)) (by (with_reducible repeat (first | refine blk_drewN ?_ _ | refine blk_drew ?_ | refine blk_alloc ?_ _)); exact BK171.out) hg (Kd.R_ne HO_3.out BK171.out (by decide))); have n3_ := Aside0.mk (blk_grown (g := gb176) (o := .cells #[.int .i64 ((rd_T55 l0_1 x12_1).f0), .string ((rd_T55 l0_1 x12_1).f1)] 55 (0, 0)) (by (with_reducible repeat (first | refine blk_drewN ?_ _ | refine blk_drew ?_ | refine blk_alloc ?_ _)); exact BK176.out) hg (Kd.R_ne HO_3.out BK176.out (by decide))); have n4_ := Aside0.mk ((by rw [hw]; exact below_set (HB.out) GB14.out : Below w.heap.size w w22)); clear HO_3; clear BK170; clear BK171; clear BK176; clear HB; have HO_3 := n0_; have BK170 := n1_; have BK171 := n2_; have BK176 := n3_; have HB := n4_; clear n0_ n1_ n2_ n3_ n4_; clear hg hw hp_))
                go_roundg k1
                case measure => have := HK1.out; omega
                case rel => exact ⟨(y177), (wrap64 (x12_1 + 1)), (by first | rfl | (simp; done) | (simp [*]; done)), H', ⟨by have := HK1.out; omega⟩, ⟨by (with_reducible repeat (first | apply Kd.R_alloc | apply Kd.R_drewN | apply Kd.R_drew)); exact HO_3.out⟩, ⟨by (with_reducible repeat (first | refine blk_drewN ?_ _ | refine blk_drew ?_ | refine blk_alloc ?_ _)); exact BK170.out⟩, ⟨by (with_reducible repeat (first | refine blk_drewN ?_ _ | refine blk_drew ?_ | refine blk_alloc ?_ _)); exact BK171.out⟩, ⟨by repeat (first | (with_reducible first | exact HB.out | apply below_alloc | apply pw_below_drewN | apply below_drew1 | refine below_set ?_ GE170.out | refine below_set ?_ GE171.out | refine below_set ?_ GE176.out) | exact HB.out)⟩⟩
              · rw [if_neg c13] at H
                exact absurd H (by simp)
            · rw [if_neg c12] at H
              exact absurd H (by simp)
          · rw [if_neg c11] at H
            exact absurd H (by simp)
        · rw [if_neg c10] at H
          exact absurd H (by simp)
      · rw [if_neg c9] at H
        have c9b0 : decide (x12_1 < (l0_1.length : Int)) = false := decide_eq_false c9
        clear c9
        simp only [Option.some.injEq, Prod.mk.injEq] at H
        obtain ⟨rfl, rfl⟩ := H
        obtain ⟨Ao23, co23, eo23⟩ := Kd.R_slice HO_3.out
        subst eo23
        have hnb24 := NB171_170.out
        have hnc24 := NB170_171.out
        have hcz25_0 : wr.cell? ⟨gb171, 0, none⟩ = some (.slice none 0 0) := (blk_cell BK171.out 0).trans rfl
        have hcz25_1 : wr.cell? ⟨gb171, 1, none⟩ = some (.slice none 0 0) := (blk_cell BK171.out 1).trans rfl
        have hfz25_0 := blk_frozen BK171.out 0
        have hfz25_1 := blk_frozen BK171.out 1
        go_wp2
        refine bodyPost_ret (results_cell_row rfl _ _ gb171 30 #[.slice Ao23 x3_1.length co23, .slice none 0 0] (0, 0) _ rfl (by (with_reducible repeat (first | refine blk_drewN ?_ _ | refine blk_drew ?_ | refine blk_alloc ?_ _)); refine blk_put (cs := #[.slice Ao23 x3_1.length co23, .slice none 0 0]) ?_ 1 _ rfl; (with_reducible repeat (first | refine blk_drewN ?_ _ | refine blk_drew ?_ | refine blk_alloc ?_ _)); refine blk_put (cs := #[.slice none 0 0, .slice none 0 0]) ?_ 0 _ rfl; (with_reducible repeat (first | refine blk_drewN ?_ _ | refine blk_drew ?_ | refine blk_alloc ?_ _)); exact BK171.out) Try.underlying30 rfl (by kernel_rfl)) rfl ?_
        exact ⟨_, _, by first | rfl | (simp [errW_none, errW_some] <;> rfl) | (simp [*, errW_none, errW_some] <;> rfl), by (with_reducible repeat (first | apply Kd.R_alloc | apply Kd.R_drewN | apply Kd.R_drew)); exact Kd.R_mono (Kd.R_far (p := ⟨gb171, 1, none⟩) (Kd.R_far (p := ⟨gb171, 0, none⟩) (Kd.R_types HO_3.out BK171.out (by decide)) (fun _ hk => hk.2) (.slice Ao23 x3_1.length co23)) (fun _ hk => hk.2) (.slice none 0 0)) (fun _ hk => trivial), by first | exact Kd.R_nil _ _ _ _ _ | exact Kd.N_nil _ _ _ _ _ | exact Kd.V_nil _ _ _ _ _ | exact Kd.Q_nil _ _ _ _ _ | exact Kd.S_nil _ _ _ _ _, by repeat (first | (with_reducible first | exact HB.out | apply below_alloc | apply pw_below_drewN | apply below_drew1 | refine below_set ?_ GE170.out | refine below_set ?_ GE171.out) | exact HB.out)⟩

/-! ### impl_FlushDisk: function 23 -/
def impl_FlushDisk.f (k : Nat) (l0_0 : List ByteArray) (l0_1 : List (S55)) : Option (List ByteArray × (List (S55))) := (impl_DiskOk.f l0_0 l0_1).bind fun t180 => (if t180 = true then ((impl_Disk_flushed.f k l0_0 l0_1).bind fun bt181 => (some (bt181.1, bt181.2))) else (some (([] : List ByteArray), ([] : List (S55)))))
theorem impl_FlushDisk.mono : ∀ a0 a1 k, LeO (impl_FlushDisk.f k a0 a1) (impl_FlushDisk.f (k + 1) a0 a1) := by
  intro a0 a1 k
  unfold impl_FlushDisk.f
  repeat' first
      | (with_reducible exact impl_Disk_flushed.mono _ _ _)
      | (with_reducible exact LeO.refl _)
      | (with_reducible exact LeO.none _)
      | (with_reducible refine LeO.ite ?_ ?_)
      | (with_reducible refine LeO.bind ?_ (fun _ => ?_))
      | exact impl_Disk_flushed.mono _ _ _
      | exact LeO.none _
      | refine LeO.ite ?_ ?_
      | refine LeO.bind ?_ (fun _ => ?_)
set_option maxHeartbeats 8000000 in
set_option maxRecDepth 100000 in
theorem impl_FlushDisk.calls (k : Nat) (A0_0 : Option Addr) (c0_0 : Nat) (l0_0 : List ByteArray) (A0_1 : Option Addr) (c0_1 : Nat) (l0_1 : List (S55)) (r1 : List ByteArray) (r2 : List (S55)) (w : World) (hr0_0 : Kd.C Kd.string w A0_0 l0_0.length l0_0) (hc0_0 : l0_0.length ≤ c0_0) (hr0_1 : Kd.C k55 w A0_1 l0_1.length l0_1) (hc0_1 : l0_1.length ≤ c0_1) (h : impl_FlushDisk.f k l0_0 l0_1 = some (r1, r2)) :
    Calls Try.prog 23 #[.agg #[.slice A0_0 l0_0.length c0_0, .slice A0_1 l0_1.length c0_1]] w fun e w' => ∃ v0_ v1_ : Value, e = .returned (.agg #[v0_, v1_]) ∧ Kd.R Kd.string 9 w' w.heap.size (fun _ => True) v0_ r1 ∧ Kd.R k55 55 w' w.heap.size (fun _ => True) v1_ r2 ∧ Below w.heap.size w w' := by
  have hu30 := Try.underlying30
  have HR0_0 := Aside0.mk hr0_0
  have HC0_0 := Aside0.mk hc0_0
  clear hr0_0 hc0_0
  have HR0_1 := Aside0.mk hr0_1
  have HC0_1 := Aside0.mk hc0_1
  clear hr0_1 hc0_1
  have HB := Aside0.mk (Below.refl w.heap.size w)
  have H : ((impl_DiskOk.f l0_0 l0_1).bind fun t180 => (if t180 = true then ((impl_Disk_flushed.f k l0_0 l0_1).bind fun bt181 => (some (bt181.1, bt181.2))) else (some (([] : List ByteArray), ([] : List (S55)))))) = some (r1, r2) := h
  clear h
  replace H := Option.bind_eq_some_iff.mp H
  obtain ⟨t180, A20, H⟩ := H
  replace H : (if t180 = true then ((impl_Disk_flushed.f k l0_0 l0_1).bind fun bt181 => (some (bt181.1, bt181.2))) else (some (([] : List ByteArray), ([] : List (S55))))) = some (r1, r2) := H
  have A2 := Aside0.mk A20
  clear A20
  by_cases c3 : t180 = true
  · subst c3
    have H1 : ((impl_Disk_flushed.f k l0_0 l0_1).bind fun bt181 => (some (bt181.1, bt181.2))) = some (r1, r2) := by rw [if_pos rfl] at H; exact H
    clear H
    have H := H1
    clear H1
    replace H := Option.bind_eq_some_iff.mp H
    obtain ⟨⟨t181, t184⟩, A40, H⟩ := H
    replace H : (some (t181, t184)) = some (r1, r2) := H
    have A4 := Aside0.mk A40
    clear A40
    simp only [Option.some.injEq, Prod.mk.injEq] at H
    obtain ⟨rfl, rfl⟩ := H
    go_enter Try.func23, Try.ntmps23
    go_wp2_with (first | ((with_reducible refine gate_dst (N := 1) rfl ?_); refine box_event ?hg (N := 1) ?hd (cs := #[.slice A0_0 l0_0.length c0_0, .slice A0_1 l0_1.length c0_1]) (t := 30) ?hr ?_; (case hd => rfl); (case hg => rfl); (case hr => first | (go_simp; done) | (go_simp; rfl)); intro gb178 hg w5 hbox hb; have n0_ := Aside0.mk (below_step (by repeat (first | (with_reducible first | exact HB.out | apply below_alloc | apply pw_below_drewN | apply below_drew1) | exact HB.out)) hb); have n1_ := Aside0.mk (hbox); have n2_ := Aside0.mk ((by rw [hg]; exact (below_size (by repeat (first | (with_reducible first | exact HB.out | apply below_alloc | apply pw_below_drewN | apply below_drew1) | exact HB.out))) : w.heap.size ≤ gb178)); have n3_ := Aside0.mk ((by rw [hg]; exact (below_size (by repeat (first | (with_reducible first | exact HB.out | apply below_alloc | apply pw_below_drewN | apply below_drew1) | exact HB.out))) : w.heap.size ≤ gb178)); clear HB; have HB := n0_; have BK178 := n1_; have GW178 := n2_; have GE178 := n3_; clear n0_ n1_ n2_ n3_; clear hb hbox hg) | ((with_reducible refine gate_dst (N := 2) rfl ?_); refine box_event ?hg (N := 2) ?hd (cs := #[.slice none 0 0, .slice none 0 0]) (t := 30) ?hr ?_; (case hd => rfl); (case hg => rfl); (case hr => first | (go_simp; done) | (go_simp; rfl)); intro gb179 hg w6 hbox hb; have n0_ := Aside0.mk (blk_below (g := gb178) (o := .cells #[.slice A0_0 l0_0.length c0_0, .slice A0_1 l0_1.length c0_1] 30 (0, 0)) (by (with_reducible repeat (first | refine blk_drewN ?_ _ | refine blk_drew ?_ | refine blk_alloc ?_ _)); exact BK178.out) hb); have n1_ := Aside0.mk (below_step (by repeat (first | (with_reducible first | exact HB.out | apply below_alloc | apply pw_below_drewN | apply below_drew1 | refine below_set ?_ GE178.out) | exact HB.out)) hb); have n2_ := Aside0.mk (hbox); have n3_ := Aside0.mk ((by rw [hg]; exact (below_size (by repeat (first | (with_reducible first | exact HB.out | apply below_alloc | apply pw_below_drewN | apply below_drew1 | refine below_set ?_ GE178.out) | exact HB.out))) : w.heap.size ≤ gb179)); have n4_ := Aside0.mk ((by rw [hg]; exact (below_size (by repeat (first | (with_reducible first | exact HB.out | apply below_alloc | apply pw_below_drewN | apply below_drew1 | refine below_set ?_ GE178.out) | exact HB.out))) : w.heap.size ≤ gb179)); have n5_ := Aside0.mk ((by rw [hg]; exact Nat.ne_of_lt (blk_lt (g := gb178) (o := .cells #[.slice A0_0 l0_0.length c0_0, .slice A0_1 l0_1.length c0_1] 30 (0, 0)) (by (with_reducible repeat (first | refine blk_drewN ?_ _ | refine blk_drew ?_ | refine blk_alloc ?_ _)); exact BK178.out)) : gb178 ≠ gb179)); have n6_ := Aside0.mk ((by rw [hg]; exact Nat.ne_of_gt (blk_lt (g := gb178) (o := .cells #[.slice A0_0 l0_0.length c0_0, .slice A0_1 l0_1.length c0_1] 30 (0, 0)) (by (with_reducible repeat (first | refine blk_drewN ?_ _ | refine blk_drew ?_ | refine blk_alloc ?_ _)); exact BK178.out)) : gb179 ≠ gb178)); clear BK178; clear HB; have BK178 := n0_; have HB := n1_; have BK179 := n2_; have GW179 := n3_; have GE179 := n4_; have NB178_179 := n5_; have NB179_178 := n6_; clear n0_ n1_ n2_ n3_ n4_ n5_ n6_; clear hb hbox hg; have hnb7 := NB178_179.out; have hnc7 := NB179_178.out; have hcz8_0 : w6.cell? ⟨gb178, 0, none⟩ = some (.slice A0_0 l0_0.length c0_0) := (blk_cell BK178.out 0).trans rfl; have hcz8_1 : w6.cell? ⟨gb178, 1, none⟩ = some (.slice A0_1 l0_1.length c0_1) := (blk_cell BK178.out 1).trans rfl; have hfz8_0 := blk_frozen BK178.out 0; have hfz8_1 := blk_frozen BK178.out 1) | ((with_reducible refine gate_callee (f := 18) rfl ?_); refine goesL_ (some 4) rfl rfl Try.func18 (by kernel_rfl) rfl #[.agg #[.slice A0_0 l0_0.length c0_0, .slice A0_1 l0_1.length c0_1]] rfl (by (try simp only [List.map_toArray, List.map_cons, List.map_nil]); first | done | rfl | (simp only [List.length_drop, List.length_take]; rfl)) ?_; (with_reducible refine (impl_DiskOk.calls _ _ l0_0 _ _ l0_1 true _ ?side1 ?side2 ?side3 ?side4 A2.out).mono ?_); (case side1 => repeat (first | exact (Kd.C_below HR0_0.out HB.out) | (with_reducible refine Kd.C_alloc ?_ _) | (with_reducible refine Kd.C_drewN ?_ _) | (with_reducible refine Kd.C_drew ?_))); (case side2 => exact HC0_0.out); (case side3 => repeat (first | exact (Kd.C_below HR0_1.out HB.out) | (with_reducible refine Kd.C_alloc ?_ _) | (with_reducible refine Kd.C_drewN ?_ _) | (with_reducible refine Kd.C_drew ?_))); (case side4 => exact HC0_1.out); rintro e w9 ⟨rfl, hb⟩; refine ⟨_, rfl, ?_⟩; have n0_ := Aside0.mk (blk_below (g := gb178) (o := .cells #[.slice A0_0 l0_0.length c0_0, .slice A0_1 l0_1.length c0_1] 30 (0, 0)) (by (with_reducible repeat (first | refine blk_drewN ?_ _ | refine blk_drew ?_ | refine blk_alloc ?_ _)); exact BK178.out) hb); have n1_ := Aside0.mk (blk_below (g := gb179) (o := .cells #[.slice none 0 0, .slice none 0 0] 30 (0, 0)) (by (with_reducible repeat (first | refine blk_drewN ?_ _ | refine blk_drew ?_ | refine blk_alloc ?_ _)); exact BK179.out) hb); have n2_ := Aside0.mk (below_step (by repeat (first | (with_reducible first | exact HB.out | apply below_alloc | apply pw_below_drewN | apply below_drew1 | refine below_set ?_ GE178.out | refine below_set ?_ GE179.out) | exact HB.out)) hb); clear BK178; clear BK179; clear HB; have BK178 := n0_; have BK179 := n1_; have HB := n2_; clear n0_ n1_ n2_; (try clear hb); (try clear hb2); (try clear hk); (try clear hi); have hcz10_0 : w9.cell? ⟨gb178, 0, none⟩ = some (.slice A0_0 l0_0.length c0_0) := (blk_cell BK178.out 0).trans rfl; have hcz10_1 : w9.cell? ⟨gb178, 1, none⟩ = some (.slice A0_1 l0_1.length c0_1) := (blk_cell BK178.out 1).trans rfl; have hfz10_0 := blk_frozen BK178.out 0; have hfz10_1 := blk_frozen BK178.out 1) | ((with_reducible refine gate_callee (f := 70) rfl ?_); refine goesL_ (some 8) rfl rfl Try.func70 (by kernel_rfl) rfl #[.agg #[.slice A0_0 l0_0.length c0_0, .slice A0_1 l0_1.length c0_1]] rfl (by (try simp only [List.map_toArray, List.map_cons, List.map_nil]); first | done | rfl | (simp only [List.length_drop, List.length_take]; rfl)) ?_; (with_reducible refine (impl_Disk_flushed.calls k _ _ l0_0 _ _ l0_1 t181 t184 _ ?side1 ?side2 ?side3 ?side4 A4.out).mono ?_); (case side1 => repeat (first | exact (Kd.C_below HR0_0.out HB.out) | (with_reducible refine Kd.C_alloc ?_ _) | (with_reducible refine Kd.C_drewN ?_ _) | (with_reducible refine Kd.C_drew ?_))); (case side2 => exact HC0_0.out); (case side3 => repeat (first | exact (Kd.C_below HR0_1.out HB.out) | (with_reducible refine Kd.C_alloc ?_ _) | (with_reducible refine Kd.C_drewN ?_ _) | (with_reducible refine Kd.C_drew ?_))); (case side4 => exact HC0_1.out); rintro e w11 ⟨v182, v185, rfl, ho0, ho1, hb⟩; refine ⟨_, rfl, ?_⟩; have n0_ := Aside0.mk (Kd.R_lower ho0 (below_size (by repeat (first | (with_reducible first | exact HB.out | apply below_alloc | apply pw_below_drewN | apply below_drew1 | refine below_set ?_ GE178.out | refine below_set ?_ GE179.out) | exact HB.out)))); have n1_ := Aside0.mk (Kd.R_lower ho1 (below_size (by repeat (first | (with_reducible first | exact HB.out | apply below_alloc | apply pw_below_drewN | apply below_drew1 | refine below_set ?_ GE178.out | refine below_set ?_ GE179.out) | exact HB.out)))); have n2_ := Aside0.mk (blk_below (g := gb178) (o := .cells #[.slice A0_0 l0_0.length c0_0, .slice A0_1 l0_1.length c0_1] 30 (0, 0)) (by (with_reducible repeat (first | refine blk_drewN ?_ _ | refine blk_drew ?_ | refine blk_alloc ?_ _)); exact BK178.out) hb); have n3_ := Aside0.mk (blk_below (g := gb179) (o := .cells #[.slice none 0 0, .slice none 0 0] 30 (0, 0)) (by (with_reducible repeat (first | refine blk_drewN ?_ _ | refine blk_drew ?_ | refine blk_alloc ?_ _)); exact BK179.out) hb); have n4_ := Aside0.mk (below_step (by repeat (first | (with_reducible first | exact HB.out | apply below_alloc | apply pw_below_drewN | apply below_drew1 | refine below_set ?_ GE178.out | refine below_set ?_ GE179.out) | exact HB.out)) hb); clear BK178; clear BK179; clear HB; have HO183 := n0_; have HO186 := n1_; have BK178 := n2_; have BK179 := n3_; have HB := n4_; clear n0_ n1_ n2_ n3_ n4_; (try clear hb); (try clear hb2); (try clear hk); (try clear hi); (try clear ho0); (try clear ho1); obtain ⟨Ao12, co12, eo12⟩ := Kd.R_slice HO183.out; subst eo12; have hcz13_0 : w11.cell? ⟨gb179, 0, none⟩ = some (.slice none 0 0) := (blk_cell BK179.out 0).trans rfl; have hcz13_1 : w11.cell? ⟨gb179, 1, none⟩ = some (.slice none 0 0) := (blk_cell BK179.out 1).trans rfl; have hfz13_0 := blk_frozen BK179.out 0; have hfz13_1 := blk_frozen BK179.out 1; obtain ⟨Ao14, co14, eo14⟩ := Kd.R_slice HO186.out; subst eo14))
    refine bodyPost_ret (results_cell_row rfl _ _ gb179 30 #[.slice Ao12 t181.length co12, .slice Ao14 t184.length co14] (0, 0) _ rfl (by (with_reducible repeat (first | refine blk_drewN ?_ _ | refine blk_drew ?_ | refine blk_alloc ?_ _)); refine blk_put (cs := #[.slice Ao12 t181.length co12, .slice none 0 0]) ?_ 1 _ rfl; (with_reducible repeat (first | refine blk_drewN ?_ _ | refine blk_drew ?_ | refine blk_alloc ?_ _)); refine blk_put (cs := #[.slice none 0 0, .slice none 0 0]) ?_ 0 _ rfl; (with_reducible repeat (first | refine blk_drewN ?_ _ | refine blk_drew ?_ | refine blk_alloc ?_ _)); exact BK179.out) Try.underlying30 rfl (by kernel_rfl)) rfl ?_
    exact ⟨_, _, by first | rfl | (simp [errW_none, errW_some] <;> rfl) | (simp [*, errW_none, errW_some] <;> rfl), by (with_reducible repeat (first | apply Kd.R_alloc | apply Kd.R_drewN | apply Kd.R_drew)); exact Kd.R_mono (Kd.R_far (p := ⟨gb179, 1, none⟩) (Kd.R_far (p := ⟨gb179, 0, none⟩) (Kd.R_types HO183.out BK179.out (by decide)) (fun _ hk => hk.2) (.slice Ao12 t181.length co12)) (fun _ hk => hk.2) (.slice Ao14 t184.length co14)) (fun _ hk => trivial), by (with_reducible repeat (first | apply Kd.R_alloc | apply Kd.R_drewN | apply Kd.R_drew)); exact Kd.R_mono (Kd.R_far (p := ⟨gb179, 1, none⟩) (Kd.R_far (p := ⟨gb179, 0, none⟩) (Kd.R_types HO186.out BK179.out (by decide)) (fun _ hk => hk.2) (.slice Ao12 t181.length co12)) (fun _ hk => hk.2) (.slice Ao14 t184.length co14)) (fun _ hk => trivial), by repeat (first | (with_reducible first | exact HB.out | apply below_alloc | apply pw_below_drewN | apply below_drew1 | refine below_set ?_ GE178.out | refine below_set ?_ GE179.out) | exact HB.out)⟩
  · replace c3 := Bool.eq_false_iff.mpr c3
    subst c3
    have H1 : (some (([] : List ByteArray), ([] : List (S55)))) = some (r1, r2) := by rw [if_neg (show ¬ (false = true) by decide)] at H; exact H
    clear H
    have H := H1
    clear H1
    simp only [Option.some.injEq, Prod.mk.injEq] at H
    obtain ⟨rfl, rfl⟩ := H
    go_enter Try.func23, Try.ntmps23
    go_wp2_with (first | ((with_reducible refine gate_dst (N := 1) rfl ?_); refine box_event ?hg (N := 1) ?hd (cs := #[.slice A0_0 l0_0.length c0_0, .slice A0_1 l0_1.length c0_1]) (t := 30) ?hr ?_; (case hd => rfl); (case hg => rfl); (case hr => first | (go_simp; done) | (go_simp; rfl)); intro gb178 hg w15 hbox hb; have n0_ := Aside0.mk (below_step (by repeat (first | (with_reducible first | exact HB.out | apply below_alloc | apply pw_below_drewN | apply below_drew1) | exact HB.out)) hb); have n1_ := Aside0.mk (hbox); have n2_ := Aside0.mk ((by rw [hg]; exact (below_size (by repeat (first | (with_reducible first | exact HB.out | apply below_alloc | apply pw_below_drewN | apply below_drew1) | exact HB.out))) : w.heap.size ≤ gb178)); have n3_ := Aside0.mk ((by rw [hg]; exact (below_size (by repeat (first | (with_reducible first | exact HB.out | apply below_alloc | apply pw_below_drewN | apply below_drew1) | exact HB.out))) : w.heap.size ≤ gb178)); clear HB; have HB := n0_; have BK178 := n1_; have GW178 := n2_; have GE178 := n3_; clear n0_ n1_ n2_ n3_; clear hb hbox hg) | ((with_reducible refine gate_dst (N := 2) rfl ?_); refine box_event ?hg (N := 2) ?hd (cs := #[.slice none 0 0, .slice none 0 0]) (t := 30) ?hr ?_; (case hd => rfl); (case hg => rfl); (case hr => first | (go_simp; done) | (go_simp; rfl)); intro gb179 hg w16 hbox hb; have n0_ := Aside0.mk (blk_below (g := gb178) (o := .cells #[.slice A0_0 l0_0.length c0_0, .slice A0_1 l0_1.length c0_1] 30 (0, 0)) (by (with_reducible repeat (first | refine blk_drewN ?_ _ | refine blk_drew ?_ | refine blk_alloc ?_ _)); exact BK178.out) hb); have n1_ := Aside0.mk (below_step (by repeat (first | (with_reducible first | exact HB.out | apply below_alloc | apply pw_below_drewN | apply below_drew1 | refine below_set ?_ GE178.out) | exact HB.out)) hb); have n2_ := Aside0.mk (hbox); have n3_ := Aside0.mk ((by rw [hg]; exact (below_size (by repeat (first | (with_reducible first | exact HB.out | apply below_alloc | apply pw_below_drewN | apply below_drew1 | refine below_set ?_ GE178.out) | exact HB.out))) : w.heap.size ≤ gb179)); have n4_ := Aside0.mk ((by rw [hg]; exact (below_size (by repeat (first | (with_reducible first | exact HB.out | apply below_alloc | apply pw_below_drewN | apply below_drew1 | refine below_set ?_ GE178.out) | exact HB.out))) : w.heap.size ≤ gb179)); have n5_ := Aside0.mk ((by rw [hg]; exact Nat.ne_of_lt (blk_lt (g := gb178) (o := .cells #[.slice A0_0 l0_0.length c0_0, .slice A0_1 l0_1.length c0_1] 30 (0, 0)) (by (with_reducible repeat (first | refine blk_drewN ?_ _ | refine blk_drew ?_ | refine blk_alloc ?_ _)); exact BK178.out)) : gb178 ≠ gb179)); have n6_ := Aside0.mk ((by rw [hg]; exact Nat.ne_of_gt (blk_lt (g := gb178) (o := .cells #[.slice A0_0 l0_0.length c0_0, .slice A0_1 l0_1.length c0_1] 30 (0, 0)) (by (with_reducible repeat (first | refine blk_drewN ?_ _ | refine blk_drew ?_ | refine blk_alloc ?_ _)); exact BK178.out)) : gb179 ≠ gb178)); clear BK178; clear HB; have BK178 := n0_; have HB := n1_; have BK179 := n2_; have GW179 := n3_; have GE179 := n4_; have NB178_179 := n5_; have NB179_178 := n6_; clear n0_ n1_ n2_ n3_ n4_ n5_ n6_; clear hb hbox hg; have hnb17 := NB178_179.out; have hnc17 := NB179_178.out; have hcz18_0 : w16.cell? ⟨gb178, 0, none⟩ = some (.slice A0_0 l0_0.length c0_0) := (blk_cell BK178.out 0).trans rfl; have hcz18_1 : w16.cell? ⟨gb178, 1, none⟩ = some (.slice A0_1 l0_1.length c0_1) := (blk_cell BK178.out 1).trans rfl; have hfz18_0 := blk_frozen BK178.out 0; have hfz18_1 := blk_frozen BK178.out 1) | ((with_reducible refine gate_callee (f := 18) rfl ?_); refine goesL_ (some 4) rfl rfl Try.func18 (by kernel_rfl) rfl #[.agg #[.slice A0_0 l0_0.length c0_0, .slice A0_1 l0_1.length c0_1]] rfl (by (try simp only [List.map_toArray, List.map_cons, List.map_nil]); first | done | rfl | (simp only [List.length_drop, List.length_take]; rfl)) ?_; (with_reducible refine (impl_DiskOk.calls _ _ l0_0 _ _ l0_1 false _ ?side1 ?side2 ?side3 ?side4 A2.out).mono ?_); (case side1 => repeat (first | exact (Kd.C_below HR0_0.out HB.out) | (with_reducible refine Kd.C_alloc ?_ _) | (with_reducible refine Kd.C_drewN ?_ _) | (with_reducible refine Kd.C_drew ?_))); (case side2 => exact HC0_0.out); (case side3 => repeat (first | exact (Kd.C_below HR0_1.out HB.out) | (with_reducible refine Kd.C_alloc ?_ _) | (with_reducible refine Kd.C_drewN ?_ _) | (with_reducible refine Kd.C_drew ?_))); (case side4 => exact HC0_1.out); rintro e w19 ⟨rfl, hb⟩; refine ⟨_, rfl, ?_⟩; have n0_ := Aside0.mk (blk_below (g := gb178) (o := .cells #[.slice A0_0 l0_0.length c0_0, .slice A0_1 l0_1.length c0_1] 30 (0, 0)) (by (with_reducible repeat (first | refine blk_drewN ?_ _ | refine blk_drew ?_ | refine blk_alloc ?_ _)); exact BK178.out) hb); have n1_ := Aside0.mk (blk_below (g := gb179) (o := .cells #[.slice none 0 0, .slice none 0 0] 30 (0, 0)) (by (with_reducible repeat (first | refine blk_drewN ?_ _ | refine blk_drew ?_ | refine blk_alloc ?_ _)); exact BK179.out) hb); have n2_ := Aside0.mk (below_step (by repeat (first | (with_reducible first | exact HB.out | apply below_alloc | apply pw_below_drewN | apply below_drew1 | refine below_set ?_ GE178.out | refine below_set ?_ GE179.out) | exact HB.out)) hb); clear BK178; clear BK179; clear HB; have BK178 := n0_; have BK179 := n1_; have HB := n2_; clear n0_ n1_ n2_; (try clear hb); (try clear hb2); (try clear hk); (try clear hi); have hcz20_0 : w19.cell? ⟨gb179, 0, none⟩ = some (.slice none 0 0) := (blk_cell BK179.out 0).trans rfl; have hcz20_1 : w19.cell? ⟨gb179, 1, none⟩ = some (.slice none 0 0) := (blk_cell BK179.out 1).trans rfl; have hfz20_0 := blk_frozen BK179.out 0; have hfz20_1 := blk_frozen BK179.out 1))
    refine bodyPost_ret (results_cell_row rfl _ _ gb179 30 #[.slice none 0 0, .slice none 0 0] (0, 0) _ rfl (by (with_reducible repeat (first | refine blk_drewN ?_ _ | refine blk_drew ?_ | refine blk_alloc ?_ _)); refine blk_put (cs := #[.slice none 0 0, .slice none 0 0]) ?_ 1 _ rfl; (with_reducible repeat (first | refine blk_drewN ?_ _ | refine blk_drew ?_ | refine blk_alloc ?_ _)); refine blk_put (cs := #[.slice none 0 0, .slice none 0 0]) ?_ 0 _ rfl; (with_reducible repeat (first | refine blk_drewN ?_ _ | refine blk_drew ?_ | refine blk_alloc ?_ _)); exact BK179.out) Try.underlying30 rfl (by kernel_rfl)) rfl ?_
    exact ⟨_, _, by first | rfl | (simp [errW_none, errW_some] <;> rfl) | (simp [*, errW_none, errW_some] <;> rfl), by first | exact Kd.R_nil _ _ _ _ _ | exact Kd.N_nil _ _ _ _ _ | exact Kd.V_nil _ _ _ _ _ | exact Kd.Q_nil _ _ _ _ _ | exact Kd.S_nil _ _ _ _ _, by first | exact Kd.R_nil _ _ _ _ _ | exact Kd.N_nil _ _ _ _ _ | exact Kd.V_nil _ _ _ _ _ | exact Kd.Q_nil _ _ _ _ _ | exact Kd.S_nil _ _ _ _ _, by repeat (first | (with_reducible first | exact HB.out | apply below_alloc | apply pw_below_drewN | apply below_drew1 | refine below_set ?_ GE178.out | refine below_set ?_ GE179.out) | exact HB.out)⟩

/-! ### laws_markText: function 108 -/
def laws_markText.l0 : Nat → Int → ByteArray → Option (ByteArray)
  | 0, _, _ => none
  | k + 1, x0, x3 => if x0 > 0 then ((some (([(wrap64 (48 + (Int.tmod x0 10))) % 256] : List Int) : List Int)).bind fun y187 => (if (strOfNums y187).size + x3.size ≤ 9223372036854775807 then (laws_markText.l0 k (wrap64 (Int.tdiv x0 10)) ((strOfNums y187) ++ x3)) else (none))) else (if 1 + x3.size ≤ 9223372036854775807 then (some ((⟨#[109]⟩ : ByteArray) ++ x3)) else (none))
def laws_markText.f (k : Nat) (a0 : Int) : Option (ByteArray) := if a0 ≤ 0 then (some (⟨#[109, 48]⟩ : ByteArray)) else (laws_markText.l0 k a0 (⟨#[]⟩ : ByteArray))
theorem laws_markText.mono_l : ∀ k, (∀ y0 y1, LeO (laws_markText.l0 k y0 y1) (laws_markText.l0 (k + 1) y0 y1))
  | 0 => fun _ _ r h => by simp [laws_markText.l0] at h
  | k + 1 => by
    have ih0 := laws_markText.mono_l k
    · intro y0 y1
      unfold laws_markText.l0
      repeat' first
      | (with_reducible exact ih0 _ _)
      | (with_reducible exact LeO.refl _)
      | (with_reducible exact LeO.none _)
      | (with_reducible refine LeO.ite ?_ ?_)
      | (with_reducible refine LeO.bind ?_ (fun _ => ?_))
      | exact ih0 _ _
      | exact LeO.none _
      | refine LeO.ite ?_ ?_
      | refine LeO.bind ?_ (fun _ => ?_)
theorem laws_markText.mono : ∀ a0 k, LeO (laws_markText.f k a0) (laws_markText.f (k + 1) a0) := by
  intro a0 k
  have ih0 := laws_markText.mono_l k
  unfold laws_markText.f
  repeat' first
      | (with_reducible exact ih0 _ _)
      | (with_reducible exact LeO.refl _)
      | (with_reducible exact LeO.none _)
      | (with_reducible refine LeO.ite ?_ ?_)
      | (with_reducible refine LeO.bind ?_ (fun _ => ?_))
      | exact ih0 _ _
      | exact LeO.none _
      | refine LeO.ite ?_ ?_
      | refine LeO.bind ?_ (fun _ => ?_)
set_option maxHeartbeats 8000000 in
set_option maxRecDepth 100000 in
theorem laws_markText.calls (k : Nat) (a0 : Int) (r : ByteArray) (w : World) (h : laws_markText.f k a0 = some r) :
    Calls Try.prog 108 #[.int .i64 a0] w fun e w' => e = .returned (.string r) ∧ Below w.heap.size w w' := by
  have HB := Aside0.mk (Below.refl w.heap.size w)
  have H : (if a0 ≤ 0 then (some (⟨#[109, 48]⟩ : ByteArray)) else (laws_markText.l0 k a0 (⟨#[]⟩ : ByteArray))) = some r := h
  clear h
  by_cases c2 : a0 ≤ 0
  · rw [if_pos c2] at H
    have c2b0 : decide (a0 ≤ 0) = true := decide_eq_true c2
    clear c2
    obtain rfl := Option.some.inj H
    go_enter Try.func108, Try.ntmps108
    go_wp2
    go_ret
    exact ⟨by first | rfl | (simp [errW_none, errW_some] <;> rfl) | (simp [*, errW_none, errW_some] <;> rfl), by repeat (first | (with_reducible first | exact HB.out | apply below_alloc | apply pw_below_drewN | apply below_drew1) | exact HB.out)⟩
  · rw [if_neg c2] at H
    have c2b0 : decide (a0 ≤ 0) = false := decide_eq_false c2
    clear c2
    have H' := Aside0.mk H
    clear H
    go_enter Try.func108, Try.ntmps108
    go_wp2
    go_loopg [0, 3] k (fun kq v0 v3 w' => ∃ (x0_1 : Int) (x3_1 : ByteArray), v0 = .int .i64 x0_1 ∧ v3 = .string x3_1 ∧ Aside0 (laws_markText.l0 kq x0_1 x3_1 = some r) ∧ Aside0 (kq ≤ k) ∧ Aside0 (Below w.heap.size w w'))
    case atStart => exact ⟨(a0), ((⟨#[]⟩ : ByteArray)), (by first | rfl | (simp; done) | (simp [*]; done)), (by first | rfl | (simp; done) | (simp [*]; done)), H', ⟨Nat.le_refl _⟩, ⟨by repeat (first | (with_reducible first | exact HB.out | apply below_alloc | apply pw_below_drewN | apply below_drew1) | exact HB.out)⟩⟩
    case round =>
      clear H'
      try clear c1
      try clear c2
      try clear c2b0
      try clear p2
      obtain ⟨x0_1, x3_1, rfl, rfl, HA, HK1, HB⟩ := hrel
      cases gk with
      | zero => exact absurd HA.out (by simp [laws_markText.l0])
      | succ k1 =>
        have H := HA.out
        clear HA
        simp only [laws_markText.l0] at H
        by_cases c3 : x0_1 > 0
        · rw [if_pos c3] at H
          have c3b0 : decide (0 < x0_1) = true := decide_eq_true c3
          clear c3
          obtain ⟨y187, hy187⟩ : ∃ y_ : List Int, y_ = (([(wrap64 (48 + (Int.tmod x0_1 10))) % 256] : List Int)) := ⟨_, rfl⟩
          replace H : (if (strOfNums y187).size + x3_1.size ≤ 9223372036854775807 then (laws_markText.l0 k1 (wrap64 (Int.tdiv x0_1 10)) ((strOfNums y187) ++ x3_1)) else (none)) = some r := by first | (rw [hy187]; with_reducible exact H) | (have H2_ := (Option.bind_some _ _).symm.trans H; rw [hy187]; with_reducible exact H2_) | (have H2_ := (Option.bind_some _ _).symm.trans H; with_reducible exact H2_) | with_reducible exact H | (rw [hy187]; exact H) | exact H
          have Ny187 := Aside0.mk hy187
          clear hy187
          by_cases c4 : (strOfNums y187).size + x3_1.size ≤ 9223372036854775807
          · rw [if_pos c4] at H
            have c4b0 := eq_true c4
            have c4b1 : decide ((strOfNums y187).size + x3_1.size ≤ 9223372036854775807) = true := decide_eq_true c4
            try have c4b2 : (9223372036854775807 < (strOfNums y187).size + x3_1.size) = False := eq_false (Nat.not_lt.2 c4)
            have H' := Aside0.mk H
            clear H
            go_wp2_with (first | ((with_reducible refine gate_dst (N := 12) rfl ?_); refine Kd.R_lit (Kd.int .u8) _ 5 ?hg (N := 12) ?hd (xs := ([(wrap64 (48 + (Int.tmod x0_1 10))) % 256] : List Int)) (inner := [.int .u8 ((wrap64 (48 + (Int.tmod x0_1 10))) % 256)]) (ok := fun _ => True) (okp := fun _ => True) ?hr ?hp (fun _ hk => hk) trivial (Below.refl _ _) (Nat.le_refl _) (by simp) ?_; (case hd => rfl); (case hg => rfl); (case hr => first | (go_simp; done) | (go_simp; rfl)); (case hp => exact (Reps.one (show Kd.M (Kd.int .u8) _ _ _ ((wrap64 (48 + (Int.tmod x0_1 10))) % 256) [.int .u8 ((wrap64 (48 + (Int.tmod x0_1 10))) % 256)] from rfl) (Reps.none _ _))); intro v188 w5 ho6 hb hg_ hnew_; clear hg_ hnew_; (first | rw [← Ny187.out] at ho6 | (simp only [Int.reduceToNat] at ho6; rw [← Ny187.out] at ho6)); have n0_ := Aside0.mk (Kd.R_lower ho6 (below_size (by repeat (first | (with_reducible first | exact HB.out | apply below_alloc | apply pw_below_drewN | apply below_drew1) | exact HB.out)))); have n1_ := Aside0.mk (below_step (by repeat (first | (with_reducible first | exact HB.out | apply below_alloc | apply pw_below_drewN | apply below_drew1) | exact HB.out)) hb); clear HB; have HO189 := n0_; have HB := n1_; clear n0_ n1_; clear hb ho6; have hcv7 := own_string (P := Try.prog) Try.underlying48 Try.underlying5 Try.underlying9 (Kd.own_of_R HO189.out)))
            go_roundg k1
            case measure => have := HK1.out; omega
            case rel => exact ⟨(wrap64 (Int.tdiv x0_1 10)), ((strOfNums y187) ++ x3_1), (by first | rfl | (simp; done) | (simp [*]; done)), (by first | rfl | (simp; done) | (simp [*]; done)), H', ⟨by have := HK1.out; omega⟩, ⟨by repeat (first | (with_reducible first | exact HB.out | apply below_alloc | apply pw_below_drewN | apply below_drew1) | exact HB.out)⟩⟩
          · rw [if_neg c4] at H
            exact absurd H (by simp)
        · rw [if_neg c3] at H
          have c3b0 : decide (0 < x0_1) = false := decide_eq_false c3
          clear c3
          by_cases c8 : 1 + x3_1.size ≤ 9223372036854775807
          · rw [if_pos c8] at H
            have c8b0 := eq_true c8
            have c8b1 : decide (1 + x3_1.size ≤ 9223372036854775807) = true := decide_eq_true c8
            try have c8b2 : (9223372036854775807 < 1 + x3_1.size) = False := eq_false (Nat.not_lt.2 c8)
            obtain rfl := Option.some.inj H
            go_wp2
            go_ret
            exact ⟨by first | rfl | (simp [errW_none, errW_some] <;> rfl) | (simp [*, errW_none, errW_some] <;> rfl), by repeat (first | (with_reducible first | exact HB.out | apply below_alloc | apply pw_below_drewN | apply below_drew1) | exact HB.out)⟩
          · rw [if_neg c8] at H
            exact absurd H (by simp)

/-! ### laws_markStringS: function 71 -/
def laws_markStringS.l0 : Nat → List ByteArray → Int → Int → Option (Int × List ByteArray)
  | 0, _, _, _ => none
  | k + 1, x0, x1, x5 => if x5 < (x0.length : Int) then ((laws_markText.f k x1).bind fun t190 => (if 0 ≤ x5 then (laws_markStringS.l0 k (x0.set (x5 : Int).toNat t190) (wrap64 (x1 + 1)) (wrap64 (x5 + 1))) else (none))) else (some (x1, x0))
def laws_markStringS.f (k : Nat) (l0 : List ByteArray) (a1 : Int) : Option (Int × List ByteArray) := laws_markStringS.l0 k l0 a1 0
theorem laws_markStringS.mono_l : ∀ k, (∀ y0 y1 y2, LeO (laws_markStringS.l0 k y0 y1 y2) (laws_markStringS.l0 (k + 1) y0 y1 y2))
  | 0 => fun _ _ _ r h => by simp [laws_markStringS.l0] at h
  | k + 1 => by
    have ih0 := laws_markStringS.mono_l k
    · intro y0 y1 y2
      unfold laws_markStringS.l0
      repeat' first
      | (with_reducible exact ih0 _ _ _)
      | (with_reducible exact laws_markText.mono _ _)
      | (with_reducible exact LeO.refl _)
      | (with_reducible exact LeO.none _)
      | (with_reducible refine LeO.ite ?_ ?_)
      | (with_reducible refine LeO.bind ?_ (fun _ => ?_))
      | exact ih0 _ _ _
      | exact laws_markText.mono _ _
      | exact LeO.none _
      | refine LeO.ite ?_ ?_
      | refine LeO.bind ?_ (fun _ => ?_)
theorem laws_markStringS.mono : ∀ a0 a1 k, LeO (laws_markStringS.f k a0 a1) (laws_markStringS.f (k + 1) a0 a1) := by
  intro a0 a1 k
  have ih0 := laws_markStringS.mono_l k
  unfold laws_markStringS.f
  repeat' first
      | (with_reducible exact ih0 _ _ _)
      | (with_reducible exact laws_markText.mono _ _)
      | (with_reducible exact LeO.refl _)
      | (with_reducible exact LeO.none _)
      | (with_reducible refine LeO.ite ?_ ?_)
      | (with_reducible refine LeO.bind ?_ (fun _ => ?_))
      | exact ih0 _ _ _
      | exact laws_markText.mono _ _
      | exact LeO.none _
      | refine LeO.ite ?_ ?_
      | refine LeO.bind ?_ (fun _ => ?_)
set_option maxHeartbeats 8000000 in
set_option maxRecDepth 100000 in
theorem laws_markStringS.calls (k : Nat) (P0_ : Nat → Prop) (u9000_ : Value) (l0 : List ByteArray) (a1 : Int) (r1 : Int) (r2 : List ByteArray) (w0 w : World) (hB : Below w0.heap.size w0 w) (ho0 : Kd.R Kd.string 9 w w0.heap.size P0_ u9000_ l0) (h : laws_markStringS.f k l0 a1 = some (r1, r2)) :
    Calls Try.prog 71 #[u9000_, .int .i64 a1] w fun e w' => e = .returned (.int .i64 r1) ∧ Kd.R Kd.string 9 w' w0.heap.size (fun k_ => (P0_ k_ ∨ w.heap.size ≤ k_)) u9000_ r2 ∧ Below w0.heap.size w0 w' ∧ Kept w w' (fun k_ => P0_ k_) := by
  have HO0 := Aside0.mk (show Kd.R Kd.string 9 w w0.heap.size (fun k_ => (P0_ k_ ∨ w.heap.size ≤ k_)) u9000_ l0 from Kd.R_mono ho0 (fun k_ hk => (.inl hk)))
  have HK := Aside0.mk (Kept.refl w (fun k_ => P0_ k_))
  have HW0 := Aside0.mk hB.size
  have HB := Aside0.mk hB
  clear hB
  have H : (laws_markStringS.l0 k l0 a1 0) = some (r1, r2) := h
  clear h
  have H' := Aside0.mk H
  clear H
  go_enter Try.func71, Try.ntmps71
  go_wp2
  go_loopg [1, 5] k (fun kq v1 v5 w' => ∃ (x0_1 : List ByteArray) (x1_1 : Int) (x5_1 : Int), v1 = .int .i64 x1_1 ∧ v5 = .int .i64 x5_1 ∧ Aside0 (laws_markStringS.l0 kq x0_1 x1_1 x5_1 = some (r1, r2)) ∧ Aside0 (kq ≤ k) ∧ Aside0 (Kd.R Kd.string 9 w' w0.heap.size (fun k_ => (P0_ k_ ∨ w.heap.size ≤ k_)) u9000_ x0_1) ∧ Aside0 (Kept w w' (fun k_ => P0_ k_)) ∧ Aside0 (Below w0.heap.size w0 w'))
  case atStart => exact ⟨(l0), (a1), (0), (by first | rfl | (simp; done) | (simp [*]; done)), (by first | rfl | (simp; done) | (simp [*]; done)), H', ⟨Nat.le_refl _⟩, ⟨by (with_reducible repeat (first | apply Kd.R_alloc | apply Kd.R_drewN | apply Kd.R_drew)); exact HO0.out⟩, ⟨by repeat (first | (with_reducible first | exact HK.out | apply Kept.alloc | apply Kept.drewN | apply Kept.drew) | exact HK.out)⟩, ⟨by repeat (first | (with_reducible first | exact HB.out | apply below_alloc | apply pw_below_drewN | apply below_drew1) | exact HB.out)⟩⟩
  case round =>
    clear H'
    try clear p2
    obtain ⟨x0_1, x1_1, x5_1, rfl, rfl, HA, HK1, HO_0, HK, HB⟩ := hrel
    cases gk with
    | zero => exact absurd HA.out (by simp [laws_markStringS.l0])
    | succ k1 =>
      have H := HA.out
      clear HA
      simp only [laws_markStringS.l0] at H
      by_cases c3 : x5_1 < (x0_1.length : Int)
      · rw [if_pos c3] at H
        have c3b0 : decide (x5_1 < (x0_1.length : Int)) = true := decide_eq_true c3
        clear c3
        replace H := Option.bind_eq_some_iff.mp H
        obtain ⟨t190, A40, H⟩ := H
        replace H : (if 0 ≤ x5_1 then (laws_markStringS.l0 k1 (x0_1.set (x5_1 : Int).toNat t190) (wrap64 (x1_1 + 1)) (wrap64 (x5_1 + 1))) else (none)) = some (r1, r2) := H
        have A4 := Aside0.mk A40
        clear A40
        by_cases c5 : 0 ≤ x5_1
        · rw [if_pos c5] at H
          have c5b0 : decide (0 ≤ x5_1) = true := decide_eq_true c5
          clear c5
          obtain ⟨y191, hy191⟩ : ∃ y_ : List ByteArray, y_ = (x0_1.set (x5_1 : Int).toNat t190) := ⟨_, rfl⟩
          replace H : (laws_markStringS.l0 k1 y191 (wrap64 (x1_1 + 1)) (wrap64 (x5_1 + 1))) = some (r1, r2) := by first | (rw [hy191]; with_reducible exact H) | (have H2_ := (Option.bind_some _ _).symm.trans H; rw [hy191]; with_reducible exact H2_) | (have H2_ := (Option.bind_some _ _).symm.trans H; with_reducible exact H2_) | with_reducible exact H | (rw [hy191]; exact H) | exact H
          have Ny191 := Aside0.mk hy191
          clear hy191
          have H' := Aside0.mk H
          clear H
          obtain ⟨Ao7, co7, eo7⟩ := Kd.R_slice HO_0.out
          subst eo7
          go_wp2_with (first | ((with_reducible refine gate_callee (f := 108) rfl ?_); refine goesL_ (some 15) rfl rfl Try.func108 (by kernel_rfl) rfl #[.int .i64 x1_1] rfl (by (try simp only [List.map_toArray, List.map_cons, List.map_nil]); first | done | rfl | (simp only [List.length_drop, List.length_take]; rfl)) ?_; (with_reducible refine (laws_markText.calls k1 x1_1 t190 _ A4.out).mono ?_); rintro e w8 ⟨rfl, hb⟩; refine ⟨_, rfl, ?_⟩; have n0_ := Aside0.mk (Kd.R_below (by (with_reducible repeat (first | apply Kd.R_alloc | apply Kd.R_drewN | apply Kd.R_drew)); exact HO_0.out) hb); have n1_ := Aside0.mk (Kept.below (S := (fun k_ => P0_ k_)) (by repeat (first | (with_reducible first | exact HK.out | apply Kept.alloc | apply Kept.drewN | apply Kept.drew) | exact HK.out)) hb); have n2_ := Aside0.mk (below_step (by repeat (first | (with_reducible first | exact HB.out | apply below_alloc | apply pw_below_drewN | apply below_drew1) | exact HB.out)) hb); clear HO_0; clear HK; clear HB; have HO_0 := n0_; have HK := n1_; have HB := n2_; clear n0_ n1_ n2_; (try clear hb); (try clear hb2); (try clear hk); (try clear hi); have p6 : 0 ≤ (x5_1 : Int) := of_decide_eq_true (by first | (with_reducible assumption) | assumption); have q6 : (x5_1 : Int) < ((x0_1.length : Int) : Int) := of_decide_eq_true (by first | (with_reducible assumption) | assumption); obtain ⟨go6, co6, eo6, gb6, gl6, cl6, HG6⟩ := Kd.R_form HO_0.out (by omega); (first | cases eo6 | (injection eo6 with ea_ en_ ec_; (first | subst ea_ | (injection ea_ with ea_; subst ea_)); subst ec_; clear en_)); have GB6 := Aside0.mk gb6; have GG6 := Aside0.mk HG6; clear gb6 gl6 HG6; have HMgo6 := Aside0.mk (show (P0_ go6 ∨ w.heap.size ≤ go6) from (HO_0.out.1 _ rfl)); obtain ⟨hx6_0, hf6_0⟩ := Kd.R_celln (⟨#[]⟩ : ByteArray) HO_0.out (x5_1 : Int) p6 q6; replace p6 := eq_true p6; replace q6 := eq_true q6; obtain ⟨hy9_, hz9_⟩ := Kd.R_celln (⟨#[]⟩ : ByteArray) HO_0.out (x5_1 : Int) (of_decide_eq_true (by first | (with_reducible assumption) | assumption)) (of_decide_eq_true (by first | (with_reducible assumption) | assumption)); have HP9 := Kd.R_putg HO_0.out (x5_1 : Int) t190) | ((with_reducible refine gate_store (t := 9) (p := 16) rfl ?_); refine store_event (t := 9) (p := 16) (v := ?vo_w10) (w1 := (w8.setCell ⟨go6, (x5_1 : Int).toNat, none⟩ (.string t190))) ?hg ?ho ?hn ?hr ?_; (case ho => rfl); (case hg => rfl); (case hn => rfl); (case hr => first | (go_simp; done) | (go_simp; rfl)); intro w10 hw; have hg : w8.grownBy w10 (some go6) := (by rw [hw]; exact HP9.2); have hp_ : Kd.R Kd.string 9 w10 w0.heap.size (fun k_ => (P0_ k_ ∨ w.heap.size ≤ k_)) (.slice (some ⟨go6, 0, none⟩) x0_1.length co7) y191 := (by rw [hw, Ny191.out]; exact HP9.1); clear HP9; have n0_ := Aside0.mk (hp_); have n1_ := Aside0.mk ((by rw [hw]; exact below_set (HB.out) GB6.out : Below w0.heap.size w0 w10)); have n2_ := Aside0.mk (Kept.of_grown (S := (fun k_ => P0_ k_)) hg (by repeat (first | (with_reducible first | exact HK.out | apply Kept.alloc | apply Kept.drewN | apply Kept.drew) | exact HK.out)) (fun k_ e_ => (HO_0.out.1 k_ e_))); clear HO_0; clear HB; clear HK; have HO_0 := n0_; have HB := n1_; have HK := n2_; clear n0_ n1_ n2_; clear hg hw hp_))
          go_roundg k1
          case measure => have := HK1.out; omega
          case rel => exact ⟨(y191), (wrap64 (x1_1 + 1)), (wrap64 (x5_1 + 1)), (by first | rfl | (simp; done) | (simp [*]; done)), (by first | rfl | (simp; done) | (simp [*]; done)), H', ⟨by have := HK1.out; omega⟩, ⟨by (with_reducible repeat (first | apply Kd.R_alloc | apply Kd.R_drewN | apply Kd.R_drew)); exact HO_0.out⟩, ⟨by repeat (first | (with_reducible first | exact HK.out | apply Kept.alloc | apply Kept.drewN | apply Kept.drew) | exact HK.out)⟩, ⟨by repeat (first | (with_reducible first | exact HB.out | apply below_alloc | apply pw_below_drewN | apply below_drew1) | exact HB.out)⟩⟩
        · rw [if_neg c5] at H
          exact absurd H (by simp)
      · rw [if_neg c3] at H
        have c3b0 : decide (x5_1 < (x0_1.length : Int)) = false := decide_eq_false c3
        clear c3
        simp only [Option.some.injEq, Prod.mk.injEq] at H
        obtain ⟨rfl, rfl⟩ := H
        obtain ⟨Ao11, co11, eo11⟩ := Kd.R_slice HO_0.out
        subst eo11
        go_wp2
        go_ret
        exact ⟨by first | rfl | (simp [errW_none, errW_some] <;> rfl) | (simp [*, errW_none, errW_some] <;> rfl), by (with_reducible repeat (first | apply Kd.R_alloc | apply Kd.R_drewN | apply Kd.R_drew)); exact HO_0.out, by repeat (first | (with_reducible first | exact HB.out | apply below_alloc | apply pw_below_drewN | apply below_drew1) | exact HB.out), by repeat (first | (with_reducible first | exact HK.out | apply Kept.alloc | apply Kept.drewN | apply Kept.drew) | exact HK.out)⟩

/-! ### laws_markPendingS: function 72 -/
def laws_markPendingS.l0 : Nat → List (S55) → Int → Int → Option (Int × (List (S55)))
  | 0, _, _, _ => none
  | k + 1, x0, x1, x5 => if x5 < (x0.length : Int) then (if 0 ≤ x5 then ((some (x0.set (x5 : Int).toNat (⟨x1, (rd_T55 x0 x5).f1⟩ : S55) : List (S55))).bind fun y192 => ((laws_markText.f k (wrap64 (x1 + 1))).bind fun t193 => (laws_markPendingS.l0 k (y192.set (x5 : Int).toNat (⟨(rd_T55 y192 x5).f0, t193⟩ : S55)) (wrap64 ((wrap64 (x1 + 1)) + 1)) (wrap64 (x5 + 1))))) else (none)) else (some (x1, x0))
def laws_markPendingS.f (k : Nat) (l0 : List (S55)) (a1 : Int) : Option (Int × (List (S55))) := laws_markPendingS.l0 k l0 a1 0
theorem laws_markPendingS.mono_l : ∀ k, (∀ y0 y1 y2, LeO (laws_markPendingS.l0 k y0 y1 y2) (laws_markPendingS.l0 (k + 1) y0 y1 y2))
  | 0 => fun _ _ _ r h => by simp [laws_markPendingS.l0] at h
  | k + 1 => by
    have ih0 := laws_markPendingS.mono_l k
    · intro y0 y1 y2
      unfold laws_markPendingS.l0
      repeat' first
      | (with_reducible exact ih0 _ _ _)
      | (with_reducible exact laws_markText.mono _ _)
      | (with_reducible exact LeO.refl _)
      | (with_reducible exact LeO.none _)
      | (with_reducible refine LeO.ite ?_ ?_)
      | (with_reducible refine LeO.bind ?_ (fun _ => ?_))
      | exact ih0 _ _ _
      | exact laws_markText.mono _ _
      | exact LeO.none _
      | refine LeO.ite ?_ ?_
      | refine LeO.bind ?_ (fun _ => ?_)
theorem laws_markPendingS.mono : ∀ a0 a1 k, LeO (laws_markPendingS.f k a0 a1) (laws_markPendingS.f (k + 1) a0 a1) := by
  intro a0 a1 k
  have ih0 := laws_markPendingS.mono_l k
  unfold laws_markPendingS.f
  repeat' first
      | (with_reducible exact ih0 _ _ _)
      | (with_reducible exact laws_markText.mono _ _)
      | (with_reducible exact LeO.refl _)
      | (with_reducible exact LeO.none _)
      | (with_reducible refine LeO.ite ?_ ?_)
      | (with_reducible refine LeO.bind ?_ (fun _ => ?_))
      | exact ih0 _ _ _
      | exact laws_markText.mono _ _
      | exact LeO.none _
      | refine LeO.ite ?_ ?_
      | refine LeO.bind ?_ (fun _ => ?_)
set_option maxHeartbeats 8000000 in
set_option maxRecDepth 100000 in
theorem laws_markPendingS.calls (k : Nat) (P0_ : Nat → Prop) (u9000_ : Value) (l0 : List (S55)) (a1 : Int) (r1 : Int) (r2 : List (S55)) (w0 w : World) (hB : Below w0.heap.size w0 w) (ho0 : Kd.R k55 55 w w0.heap.size P0_ u9000_ l0) (h : laws_markPendingS.f k l0 a1 = some (r1, r2)) :
    Calls Try.prog 72 #[u9000_, .int .i64 a1] w fun e w' => e = .returned (.int .i64 r1) ∧ Kd.R k55 55 w' w0.heap.size (fun k_ => (P0_ k_ ∨ w.heap.size ≤ k_)) u9000_ r2 ∧ Below w0.heap.size w0 w' ∧ Kept w w' (fun k_ => P0_ k_) := by
  have HO0 := Aside0.mk (show Kd.R k55 55 w w0.heap.size (fun k_ => (P0_ k_ ∨ w.heap.size ≤ k_)) u9000_ l0 from Kd.R_mono ho0 (fun k_ hk => (.inl hk)))
  have HK := Aside0.mk (Kept.refl w (fun k_ => P0_ k_))
  have HW0 := Aside0.mk hB.size
  have HB := Aside0.mk hB
  clear hB
  have H : (laws_markPendingS.l0 k l0 a1 0) = some (r1, r2) := h
  clear h
  have H' := Aside0.mk H
  clear H
  go_enter Try.func72, Try.ntmps72
  go_wp2
  go_loopg [1, 5] k (fun kq v1 v5 w' => ∃ (x0_1 : List (S55)) (x1_1 : Int) (x5_1 : Int), v1 = .int .i64 x1_1 ∧ v5 = .int .i64 x5_1 ∧ Aside0 (laws_markPendingS.l0 kq x0_1 x1_1 x5_1 = some (r1, r2)) ∧ Aside0 (kq ≤ k) ∧ Aside0 (Kd.R k55 55 w' w0.heap.size (fun k_ => (P0_ k_ ∨ w.heap.size ≤ k_)) u9000_ x0_1) ∧ Aside0 (Kept w w' (fun k_ => P0_ k_)) ∧ Aside0 (Below w0.heap.size w0 w'))
  case atStart => exact ⟨(l0), (a1), (0), (by first | rfl | (simp; done) | (simp [*]; done)), (by first | rfl | (simp; done) | (simp [*]; done)), H', ⟨Nat.le_refl _⟩, ⟨by (with_reducible repeat (first | apply Kd.R_alloc | apply Kd.R_drewN | apply Kd.R_drew)); exact HO0.out⟩, ⟨by repeat (first | (with_reducible first | exact HK.out | apply Kept.alloc | apply Kept.drewN | apply Kept.drew) | exact HK.out)⟩, ⟨by repeat (first | (with_reducible first | exact HB.out | apply below_alloc | apply pw_below_drewN | apply below_drew1) | exact HB.out)⟩⟩
  case round =>
    clear H'
    try clear p2
    obtain ⟨x0_1, x1_1, x5_1, rfl, rfl, HA, HK1, HO_0, HK, HB⟩ := hrel
    cases gk with
    | zero => exact absurd HA.out (by simp [laws_markPendingS.l0])
    | succ k1 =>
      have H := HA.out
      clear HA
      simp only [laws_markPendingS.l0] at H
      by_cases c3 : x5_1 < (x0_1.length : Int)
      · rw [if_pos c3] at H
        have c3b0 : decide (x5_1 < (x0_1.length : Int)) = true := decide_eq_true c3
        clear c3
        by_cases c4 : 0 ≤ x5_1
        · rw [if_pos c4] at H
          have c4b0 : decide (0 ≤ x5_1) = true := decide_eq_true c4
          clear c4
          obtain ⟨y192, hy192⟩ : ∃ y_ : List (S55), y_ = (x0_1.set (x5_1 : Int).toNat (⟨x1_1, (rd_T55 x0_1 x5_1).f1⟩ : S55)) := ⟨_, rfl⟩
          replace H : ((laws_markText.f k1 (wrap64 (x1_1 + 1))).bind fun t193 => (laws_markPendingS.l0 k1 (y192.set (x5_1 : Int).toNat (⟨(rd_T55 y192 x5_1).f0, t193⟩ : S55)) (wrap64 ((wrap64 (x1_1 + 1)) + 1)) (wrap64 (x5_1 + 1)))) = some (r1, r2) := by first | (rw [hy192]; with_reducible exact H) | (have H2_ := (Option.bind_some _ _).symm.trans H; rw [hy192]; with_reducible exact H2_) | (have H2_ := (Option.bind_some _ _).symm.trans H; with_reducible exact H2_) | with_reducible exact H | (rw [hy192]; exact H) | exact H
          have Ny192 := Aside0.mk hy192
          clear hy192
          replace H := Option.bind_eq_some_iff.mp H
          obtain ⟨t193, A60, H⟩ := H
          replace H : (laws_markPendingS.l0 k1 (y192.set (x5_1 : Int).toNat (⟨(rd_T55 y192 x5_1).f0, t193⟩ : S55)) (wrap64 ((wrap64 (x1_1 + 1)) + 1)) (wrap64 (x5_1 + 1))) = some (r1, r2) := H
          have A6 := Aside0.mk A60
          clear A60
          obtain ⟨y194, hy194⟩ : ∃ y_ : List (S55), y_ = (y192.set (x5_1 : Int).toNat (⟨(rd_T55 y192 x5_1).f0, t193⟩ : S55)) := ⟨_, rfl⟩
          replace H : (laws_markPendingS.l0 k1 y194 (wrap64 ((wrap64 (x1_1 + 1)) + 1)) (wrap64 (x5_1 + 1))) = some (r1, r2) := by first | (rw [hy194]; with_reducible exact H) | (have H2_ := (Option.bind_some _ _).symm.trans H; rw [hy194]; with_reducible exact H2_) | (have H2_ := (Option.bind_some _ _).symm.trans H; with_reducible exact H2_) | with_reducible exact H | (rw [hy194]; exact H) | exact H
          have Ny194 := Aside0.mk hy194
          clear hy194
          have H' := Aside0.mk H
          clear H
          obtain ⟨Ao8, co8, eo8⟩ := Kd.R_slice HO_0.out
          subst eo8
          have p5 : 0 ≤ (x5_1 : Int) := of_decide_eq_true (by first | (with_reducible assumption) | assumption)
          have q5 : (x5_1 : Int) < ((x0_1.length : Int) : Int) := of_decide_eq_true (by first | (with_reducible assumption) | assumption)
          obtain ⟨go5, co5, eo5, gb5, gl5, cl5, HG5⟩ := Kd.R_form HO_0.out (by omega)
          (first | cases eo5 | (injection eo5 with ea_ en_ ec_; (first | subst ea_ | (injection ea_ with ea_; subst ea_)); subst ec_; clear en_))
          have GB5 := Aside0.mk gb5
          have GG5 := Aside0.mk HG5
          clear gb5 gl5 HG5
          have HMgo5 := Aside0.mk (show (P0_ go5 ∨ w.heap.size ≤ go5) from (HO_0.out.1 _ rfl))
          obtain ⟨ce5, hcl5, hM5, hcc5, hfr5⟩ := Kd.R_elem HO_0.out z55 (x5_1 : Int) p5 q5
          obtain rfl := k55_openM hM5
          have hx5_0 : wr.cell? ⟨go5, (x5_1 : Int).toNat * 2, none⟩ = some (.int .i64 ((rd_T55 x0_1 x5_1).f0)) := hcc5 0 _ rfl
          have hx5_1 : wr.cell? ⟨go5, (x5_1 : Int).toNat * 2 + 1, none⟩ = some (.string ((rd_T55 x0_1 x5_1).f1)) := hcc5 1 _ rfl
          have hf5_0 : wr.frozen? ⟨go5, (x5_1 : Int).toNat * 2, none⟩ = false := hfr5 0
          have hf5_1 : wr.frozen? ⟨go5, (x5_1 : Int).toNat * 2 + 1, none⟩ = false := hfr5 1
          clear hcl5 hcc5 hfr5 hM5
          replace p5 := eq_true p5
          replace q5 := eq_true q5
          have HX9 := Aside0.mk (show Kd.R k55 55 wr w0.heap.size (fun k_ => (P0_ k_ ∨ w.heap.size ≤ k_)) (.slice (some ⟨go5, 0, none⟩) x0_1.length co8) x0_1 from (by (with_reducible repeat (first | apply Kd.R_alloc | apply Kd.R_drewN | apply Kd.R_drew)); exact HO_0.out))
          obtain ⟨ce9, hcl9, hM9, hcc9, hfr9⟩ := Kd.R_elem HX9.out z55 (x5_1 : Int) (of_decide_eq_true (by first | (with_reducible assumption) | assumption)) (by have h_ : (x5_1 : Int) < ((x0_1.length : Int) : Int) := of_decide_eq_true (by first | (with_reducible assumption) | assumption); first | exact h_ | (have e_ := (Kd.R_reads' HO_0.out).1; omega) | simpa using h_)
          obtain rfl := k55_openM hM9
          have HP9 := Kd.R_seg HX9.out (x5_1 : Int) (of_decide_eq_true (by first | (with_reducible assumption) | assumption)) (by have h_ : (x5_1 : Int) < ((x0_1.length : Int) : Int) := of_decide_eq_true (by first | (with_reducible assumption) | assumption); first | exact h_ | (have e_ := (Kd.R_reads' HO_0.out).1; omega) | simpa using h_) (seg := [.int .i64 x1_1]) (j := 0) hcl9 hcc9 (show 1 ≤ 2 from by decide) (x' := (⟨x1_1, (rd_T55 x0_1 x5_1).f1⟩ : S55)) (k55_mkM _ _ _ (⟨x1_1, (rd_T55 x0_1 x5_1).f1⟩ : S55) ) (fun _ hk => hk)
          have hx9_0 := hcc9 0 _ rfl
          (try simp only [show (k55).sz = 2 from rfl, Nat.mul_one, Nat.add_zero] at hx9_0)
          have hf9_0 := hfr9 0
          (try simp only [show (k55).sz = 2 from rfl, Nat.mul_one, Nat.add_zero] at hf9_0)
          clear hcl9 hcc9 hfr9 hM9
          go_wp2_with (first | ((with_reducible refine gate_store (t := 2) (p := 16) rfl ?_); refine store_event (t := 2) (p := 16) (v := ?vo_w10) (w1 := (wr.setCell ⟨go5, (x5_1 : Int).toNat * 2, none⟩ (.int .i64 x1_1))) ?hg ?ho ?hn ?hr ?_; (case ho => rfl); (case hg => rfl); (case hn => rfl); (case hr => first | (go_simp; done) | (go_simp; rfl)); intro w10 hw; have hg : wr.grownBy w10 (some go5) := (by rw [hw]; exact HP9.2); have hp_ : Kd.R k55 55 w10 w0.heap.size (fun k_ => (P0_ k_ ∨ w.heap.size ≤ k_)) (.slice (some ⟨go5, 0, none⟩) x0_1.length co8) y192 := (by rw [hw, Ny192.out]; exact HP9.1); clear HP9; have n0_ := Aside0.mk (hp_); have n1_ := Aside0.mk ((by rw [hw]; exact below_set (HB.out) GB5.out : Below w0.heap.size w0 w10)); have n2_ := Aside0.mk (Kept.of_grown (S := (fun k_ => P0_ k_)) hg (by repeat (first | (with_reducible first | exact HK.out | apply Kept.alloc | apply Kept.drewN | apply Kept.drew) | exact HK.out)) (fun k_ e_ => (HO_0.out.1 k_ e_))); clear HO_0; clear HB; clear HK; have HO_0 := n0_; have HB := n1_; have HK := n2_; clear n0_ n1_ n2_; clear hg hw hp_) | ((with_reducible refine gate_callee (f := 108) rfl ?_); refine goesL_ (some 22) rfl rfl Try.func108 (by kernel_rfl) rfl #[.int .i64 (wrap64 (x1_1 + 1))] rfl (by (try simp only [List.map_toArray, List.map_cons, List.map_nil]); first | done | rfl | (simp only [List.length_drop, List.length_take]; rfl)) ?_; (with_reducible refine (laws_markText.calls k1 (wrap64 (x1_1 + 1)) t193 _ A6.out).mono ?_); rintro e w11 ⟨rfl, hb⟩; refine ⟨_, rfl, ?_⟩; have n0_ := Aside0.mk (Kd.R_below (by (with_reducible repeat (first | apply Kd.R_alloc | apply Kd.R_drewN | apply Kd.R_drew)); exact HO_0.out) hb); have n1_ := Aside0.mk (Kept.below (S := (fun k_ => P0_ k_)) (by repeat (first | (with_reducible first | exact HK.out | apply Kept.alloc | apply Kept.drewN | apply Kept.drew) | exact HK.out)) hb); have n2_ := Aside0.mk (below_step (by repeat (first | (with_reducible first | exact HB.out | apply below_alloc | apply pw_below_drewN | apply below_drew1) | exact HB.out)) hb); clear HO_0; clear HK; clear HB; have HO_0 := n0_; have HK := n1_; have HB := n2_; clear n0_ n1_ n2_; (try clear hb); (try clear hb2); (try clear hk); (try clear hi); have p7 : 0 ≤ (x5_1 : Int) := of_decide_eq_true (by first | (with_reducible assumption) | assumption); have q7 : (x5_1 : Int) < ((x0_1.length : Int) : Int) := of_decide_eq_true (by first | (with_reducible assumption) | assumption); obtain ⟨ce7, hcl7, hM7, hcc7, hfr7⟩ := Kd.R_elem HO_0.out z55 (x5_1 : Int) p7 q7; obtain rfl := k55_openM hM7; have hx7_0 : w11.cell? ⟨go5, (x5_1 : Int).toNat * 2, none⟩ = some (.int .i64 ((rd_T55 y192 x5_1).f0)) := hcc7 0 _ rfl; have hx7_1 : w11.cell? ⟨go5, (x5_1 : Int).toNat * 2 + 1, none⟩ = some (.string ((rd_T55 y192 x5_1).f1)) := hcc7 1 _ rfl; have hf7_0 : w11.frozen? ⟨go5, (x5_1 : Int).toNat * 2, none⟩ = false := hfr7 0; have hf7_1 : w11.frozen? ⟨go5, (x5_1 : Int).toNat * 2 + 1, none⟩ = false := hfr7 1; clear hcl7 hcc7 hfr7 hM7; replace p7 := eq_true p7; replace q7 := eq_true q7; have HX12 := Aside0.mk (show Kd.R k55 55 w11 w0.heap.size (fun k_ => (P0_ k_ ∨ w.heap.size ≤ k_)) (.slice (some ⟨go5, 0, none⟩) x0_1.length co8) y192 from (by (with_reducible repeat (first | apply Kd.R_alloc | apply Kd.R_drewN | apply Kd.R_drew)); exact HO_0.out)); obtain ⟨ce12, hcl12, hM12, hcc12, hfr12⟩ := Kd.R_elem HX12.out z55 (x5_1 : Int) (of_decide_eq_true (by first | (with_reducible assumption) | assumption)) (by have h_ : (x5_1 : Int) < ((x0_1.length : Int) : Int) := of_decide_eq_true (by first | (with_reducible assumption) | assumption); first | exact h_ | (have e_ := (Kd.R_reads' HO_0.out).1; omega) | simpa using h_); obtain rfl := k55_openM hM12; have HP12 := Kd.R_seg HX12.out (x5_1 : Int) (of_decide_eq_true (by first | (with_reducible assumption) | assumption)) (by have h_ : (x5_1 : Int) < ((x0_1.length : Int) : Int) := of_decide_eq_true (by first | (with_reducible assumption) | assumption); first | exact h_ | (have e_ := (Kd.R_reads' HO_0.out).1; omega) | simpa using h_) (seg := [.string t193]) (j := 1) hcl12 hcc12 (show 2 ≤ 2 from by decide) (x' := (⟨(rd_T55 y192 x5_1).f0, t193⟩ : S55)) (k55_mkM _ _ _ (⟨(rd_T55 y192 x5_1).f0, t193⟩ : S55) ) (fun _ hk => hk); have hx12_1 := hcc12 1 _ rfl; (try simp only [show (k55).sz = 2 from rfl, Nat.mul_one, Nat.add_zero] at hx12_1); have hf12_1 := hfr12 1; (try simp only [show (k55).sz = 2 from rfl, Nat.mul_one, Nat.add_zero] at hf12_1); clear hcl12 hcc12 hfr12 hM12) | ((with_reducible refine gate_store (t := 9) (p := 24) rfl ?_); refine store_event (t := 9) (p := 24) (v := ?vo_w13) (w1 := (w11.setCell ⟨go5, (x5_1 : Int).toNat * 2 + 1, none⟩ (.string t193))) ?hg ?ho ?hn ?hr ?_; (case ho => rfl); (case hg => rfl); (case hn => rfl); (case hr => first | (go_simp; done) | (go_simp; rfl)); intro w13 hw; have hg : w11.grownBy w13 (some go5) := (by rw [hw]; exact HP12.2); have hp_ : Kd.R k55 55 w13 w0.heap.size (fun k_ => (P0_ k_ ∨ w.heap.size ≤ k_)) (.slice (some ⟨go5, 0, none⟩) x0_1.length co8) y194 := (by rw [hw, Ny194.out]; exact HP12.1); clear HP12; have n0_ := Aside0.mk (hp_); have n1_ := Aside0.mk ((by rw [hw]; exact below_set (HB.out) GB5.out : Below w0.heap.size w0 w13)); have n2_ := Aside0.mk (Kept.of_grown (S := (fun k_ => P0_ k_)) hg (by repeat (first | (with_reducible first | exact HK.out | apply Kept.alloc | apply Kept.drewN | apply Kept.drew) | exact HK.out)) (fun k_ e_ => (HO_0.out.1 k_ e_))); clear HO_0; clear HB; clear HK; have HO_0 := n0_; have HB := n1_; have HK := n2_; clear n0_ n1_ n2_; clear hg hw hp_))
          go_roundg k1
          case measure => have := HK1.out; omega
          case rel => exact ⟨(y194), (wrap64 ((wrap64 (x1_1 + 1)) + 1)), (wrap64 (x5_1 + 1)), (by first | rfl | (simp; done) | (simp [*]; done)), (by first | rfl | (simp; done) | (simp [*]; done)), H', ⟨by have := HK1.out; omega⟩, ⟨by (with_reducible repeat (first | apply Kd.R_alloc | apply Kd.R_drewN | apply Kd.R_drew)); exact HO_0.out⟩, ⟨by repeat (first | (with_reducible first | exact HK.out | apply Kept.alloc | apply Kept.drewN | apply Kept.drew) | exact HK.out)⟩, ⟨by repeat (first | (with_reducible first | exact HB.out | apply below_alloc | apply pw_below_drewN | apply below_drew1) | exact HB.out)⟩⟩
        · rw [if_neg c4] at H
          exact absurd H (by simp)
      · rw [if_neg c3] at H
        have c3b0 : decide (x5_1 < (x0_1.length : Int)) = false := decide_eq_false c3
        clear c3
        simp only [Option.some.injEq, Prod.mk.injEq] at H
        obtain ⟨rfl, rfl⟩ := H
        obtain ⟨Ao14, co14, eo14⟩ := Kd.R_slice HO_0.out
        subst eo14
        go_wp2
        go_ret
        exact ⟨by first | rfl | (simp [errW_none, errW_some] <;> rfl) | (simp [*, errW_none, errW_some] <;> rfl), by (with_reducible repeat (first | apply Kd.R_alloc | apply Kd.R_drewN | apply Kd.R_drew)); exact HO_0.out, by repeat (first | (with_reducible first | exact HB.out | apply below_alloc | apply pw_below_drewN | apply below_drew1) | exact HB.out), by repeat (first | (with_reducible first | exact HK.out | apply Kept.alloc | apply Kept.drewN | apply Kept.drew) | exact HK.out)⟩

/-! ### laws_markDisk: function 24 -/
def laws_markDisk.f (k : Nat) (l0_0 : List ByteArray) (l0_1 : List (S55)) (a1 : Int) : Option (Int × List ByteArray × (List (S55))) := (laws_markStringS.f k l0_0 a1).bind fun bt196 => ((laws_markPendingS.f k l0_1 bt196.1).bind fun bt198 => (some (bt198.1, bt196.2, bt198.2)))
theorem laws_markDisk.mono : ∀ a0 a1 a2 k, LeO (laws_markDisk.f k a0 a1 a2) (laws_markDisk.f (k + 1) a0 a1 a2) := by
  intro a0 a1 a2 k
  unfold laws_markDisk.f
  repeat' first
      | (with_reducible exact laws_markPendingS.mono _ _ _)
      | (with_reducible exact laws_markStringS.mono _ _ _)
      | (with_reducible exact LeO.refl _)
      | (with_reducible exact LeO.none _)
      | (with_reducible refine LeO.ite ?_ ?_)
      | (with_reducible refine LeO.bind ?_ (fun _ => ?_))
      | exact laws_markPendingS.mono _ _ _
      | exact laws_markStringS.mono _ _ _
      | exact LeO.none _
      | refine LeO.ite ?_ ?_
      | refine LeO.bind ?_ (fun _ => ?_)
set_option maxHeartbeats 8000000 in
set_option maxRecDepth 100000 in
theorem laws_markDisk.calls (k : Nat) (P0_0_ : Nat → Prop) (u9000_ : Value) (l0_0 : List ByteArray) (P0_1_ : Nat → Prop) (u9001_ : Value) (l0_1 : List (S55)) (a1 : Int) (r1 : Int) (r2 : List ByteArray) (r3 : List (S55)) (w0 w : World) (hB : Below w0.heap.size w0 w) (ho0_0 : Kd.R Kd.string 9 w w0.heap.size P0_0_ u9000_ l0_0) (ho0_1 : Kd.R k55 55 w w0.heap.size P0_1_ u9001_ l0_1) (h : laws_markDisk.f k l0_0 l0_1 a1 = some (r1, r2, r3)) :
    Calls Try.prog 24 #[.agg #[u9000_, u9001_], .int .i64 a1] w fun e w' => e = .returned (.int .i64 r1) ∧ Kd.R Kd.string 9 w' w0.heap.size (fun k_ => ((P0_0_ k_ ∨ P0_1_ k_) ∨ w.heap.size ≤ k_)) u9000_ r2 ∧ Kd.R k55 55 w' w0.heap.size (fun k_ => ((P0_0_ k_ ∨ P0_1_ k_) ∨ w.heap.size ≤ k_)) u9001_ r3 ∧ Below w0.heap.size w0 w' ∧ Kept w w' (fun k_ => P0_0_ k_ ∨ P0_1_ k_) := by
  have hu30 := Try.underlying30
  have HO0_0 := Aside0.mk (show Kd.R Kd.string 9 w w0.heap.size (fun k_ => ((P0_0_ k_ ∨ P0_1_ k_) ∨ w.heap.size ≤ k_)) u9000_ l0_0 from Kd.R_mono ho0_0 (fun k_ hk => (.inl (.inl hk))))
  have HO0_1 := Aside0.mk (show Kd.R k55 55 w w0.heap.size (fun k_ => ((P0_0_ k_ ∨ P0_1_ k_) ∨ w.heap.size ≤ k_)) u9001_ l0_1 from Kd.R_mono ho0_1 (fun k_ hk => (.inl (.inr hk))))
  have HK := Aside0.mk (Kept.refl w (fun k_ => P0_0_ k_ ∨ P0_1_ k_))
  have HW0 := Aside0.mk hB.size
  have HB := Aside0.mk hB
  clear hB
  have H : ((laws_markStringS.f k l0_0 a1).bind fun bt196 => ((laws_markPendingS.f k l0_1 bt196.1).bind fun bt198 => (some (bt198.1, bt196.2, bt198.2)))) = some (r1, r2, r3) := h
  clear h
  replace H := Option.bind_eq_some_iff.mp H
  obtain ⟨⟨t196, t197⟩, A30, H⟩ := H
  replace H : ((laws_markPendingS.f k l0_1 t196).bind fun bt198 => (some (bt198.1, t197, bt198.2))) = some (r1, r2, r3) := H
  have A3 := Aside0.mk A30
  clear A30
  replace H := Option.bind_eq_some_iff.mp H
  obtain ⟨⟨t198, t199⟩, A40, H⟩ := H
  replace H : (some (t198, t197, t199)) = some (r1, r2, r3) := H
  have A4 := Aside0.mk A40
  clear A40
  simp only [Option.some.injEq, Prod.mk.injEq] at H
  obtain ⟨rfl, rfl, rfl⟩ := H
  obtain ⟨Ao5, co5, eo5⟩ := Kd.R_slice HO0_0.out
  subst eo5
  obtain ⟨Ao6, co6, eo6⟩ := Kd.R_slice HO0_1.out
  subst eo6
  go_enter Try.func24, Try.ntmps24
  go_wp2_with (first | ((with_reducible refine gate_dst (N := 2) rfl ?_); refine box_event ?hg (N := 2) ?hd (cs := #[.slice Ao5 l0_0.length co5, .slice Ao6 l0_1.length co6]) (t := 30) ?hr ?_; (case hd => rfl); (case hg => rfl); (case hr => first | (go_simp; done) | (go_simp; rfl)); intro gb195 hg w7 hbox hb; have n0_ := Aside0.mk (Kd.R_below (by (with_reducible repeat (first | apply Kd.R_alloc | apply Kd.R_drewN | apply Kd.R_drew)); exact HO0_0.out) hb); have n1_ := Aside0.mk (Kd.R_below (by (with_reducible repeat (first | apply Kd.R_alloc | apply Kd.R_drewN | apply Kd.R_drew)); exact HO0_1.out) hb); have n2_ := Aside0.mk (Kept.below (S := (fun k_ => P0_0_ k_ ∨ P0_1_ k_)) (by repeat (first | (with_reducible first | exact HK.out | apply Kept.alloc | apply Kept.drewN | apply Kept.drew) | exact HK.out)) hb); have n3_ := Aside0.mk (below_step (by repeat (first | (with_reducible first | exact HB.out | apply below_alloc | apply pw_below_drewN | apply below_drew1) | exact HB.out)) hb); have n4_ := Aside0.mk (hbox); have n5_ := Aside0.mk ((by rw [hg]; exact (by first | exact HK.out.1 | exact (show Kept w _ (fun k_ => P0_0_ k_ ∨ P0_1_ k_) from by repeat (first | (with_reducible first | exact HK.out | apply Kept.alloc | apply Kept.drewN | apply Kept.drew) | exact HK.out)).1) : w.heap.size ≤ gb195)); have n6_ := Aside0.mk ((by rw [hg]; exact (below_size (by repeat (first | (with_reducible first | exact HB.out | apply below_alloc | apply pw_below_drewN | apply below_drew1) | exact HB.out))) : w0.heap.size ≤ gb195)); clear HO0_0; clear HO0_1; clear HK; clear HB; have HO0_0 := n0_; have HO0_1 := n1_; have HK := n2_; have HB := n3_; have BK195 := n4_; have GW195 := n5_; have GE195 := n6_; clear n0_ n1_ n2_ n3_ n4_ n5_ n6_; clear hb hbox hg; have hcz8_0 : w7.cell? ⟨gb195, 0, none⟩ = some (.slice Ao5 l0_0.length co5) := (blk_cell BK195.out 0).trans rfl; have hcz8_1 : w7.cell? ⟨gb195, 1, none⟩ = some (.slice Ao6 l0_1.length co6) := (blk_cell BK195.out 1).trans rfl; have hfz8_0 := blk_frozen BK195.out 0; have hfz8_1 := blk_frozen BK195.out 1) | ((with_reducible refine gate_callee (f := 71) rfl ?_); refine goesL_ (some 8) rfl rfl Try.func71 (by kernel_rfl) rfl #[.slice Ao5 l0_0.length co5, .int .i64 a1] rfl (by (try simp only [List.map_toArray, List.map_cons, List.map_nil]); first | done | rfl | (simp only [List.length_drop, List.length_take]; rfl)) ?_; (with_reducible refine (laws_markStringS.calls k (fun k_ => some k_ = (.slice Ao5 l0_0.length co5 : Value).ownBlock) (.slice Ao5 l0_0.length co5) l0_0 a1 t196 t197 w0 _ ?side1 ?side2 A3.out).mono ?_); (case side1 => repeat (first | (with_reducible first | exact HB.out | apply below_alloc | apply pw_below_drewN | apply below_drew1 | refine below_set ?_ GE195.out) | exact HB.out)); (case side2 => exact Kd.R_tight rfl HO0_0.out); rintro e w9 ⟨rfl, hy0, hb, hkp⟩; refine ⟨_, rfl, ?_⟩; have n0_ := Aside0.mk (Kd.R_reok rfl hy0 (fun k_ e_ => HO0_0.out.1 k_ e_)); have n1_ := Aside0.mk (Kd.R_mono (ok' := fun k_ => ((P0_0_ k_ ∨ P0_1_ k_) ∨ w.heap.size ≤ k_)) (Kd.R_keptB ((Kd.R_apart' HO0_1.out (Kd.R_typed HO0_0.out) (by decide))) hkp (fun k_ hk_ hs_ => (hk_.2) hs_)) (fun k_ hk_ => hk_.1.1)); have n2_ := Aside0.mk (blk_kept (by (with_reducible repeat (first | refine blk_drewN ?_ _ | refine blk_drew ?_ | refine blk_alloc ?_ _)); exact BK195.out) hkp (fun hs_ => (fun e_ => (Kd.R_ne HO0_0.out BK195.out (by decide)) e_) hs_)); have n3_ := Aside0.mk (Kept.then_ (S := (fun k_ => P0_0_ k_ ∨ P0_1_ k_)) (by repeat (first | (with_reducible first | exact HK.out | apply Kept.alloc | apply Kept.drewN | apply Kept.drew | refine Kept.setCell ?_ (.inr GW195.out) _) | exact HK.out)) hkp (fun k_ hs_ => (fun e_ => (HO0_0.out.1 k_ e_.symm)) hs_)); have n4_ := Aside0.mk (hb); clear HO0_0; clear HO0_1; clear BK195; clear HK; clear HB; have HO0_0 := n0_; have HO0_1 := n1_; have BK195 := n2_; have HK := n3_; have HB := n4_; clear n0_ n1_ n2_ n3_ n4_; (try clear hb); (try clear hkp); (try clear hy0); have hcz10_0 : w9.cell? ⟨gb195, 0, none⟩ = some (.slice Ao5 l0_0.length co5) := (blk_cell BK195.out 0).trans rfl; have hcz10_1 : w9.cell? ⟨gb195, 1, none⟩ = some (.slice Ao6 l0_1.length co6) := (blk_cell BK195.out 1).trans rfl; have hfz10_0 := blk_frozen BK195.out 0; have hfz10_1 := blk_frozen BK195.out 1) | ((with_reducible refine gate_callee (f := 72) rfl ?_); refine goesL_ (some 12) rfl rfl Try.func72 (by kernel_rfl) rfl #[.slice Ao6 l0_1.length co6, .int .i64 t196] rfl (by (try simp only [List.map_toArray, List.map_cons, List.map_nil]); first | done | rfl | (simp only [List.length_drop, List.length_take]; rfl)) ?_; (with_reducible refine (laws_markPendingS.calls k (fun k_ => some k_ = (.slice Ao6 l0_1.length co6 : Value).ownBlock) (.slice Ao6 l0_1.length co6) l0_1 t196 t198 t199 w0 _ ?side1 ?side2 A4.out).mono ?_); (case side1 => repeat (first | (with_reducible first | exact HB.out | apply below_alloc | apply pw_below_drewN | apply below_drew1 | refine below_set ?_ GE195.out) | exact HB.out)); (case side2 => exact Kd.R_tight rfl HO0_1.out); rintro e w11 ⟨rfl, hy0, hb, hkp⟩; refine ⟨_, rfl, ?_⟩; have n0_ := Aside0.mk (Kd.R_mono (ok' := fun k_ => ((P0_0_ k_ ∨ P0_1_ k_) ∨ w.heap.size ≤ k_)) (Kd.R_keptB ((Kd.R_apart' HO0_0.out (Kd.R_typed HO0_1.out) (by decide))) hkp (fun k_ hk_ hs_ => (hk_.2) hs_)) (fun k_ hk_ => hk_.1.1)); have n1_ := Aside0.mk (Kd.R_reok rfl hy0 (fun k_ e_ => HO0_1.out.1 k_ e_)); have n2_ := Aside0.mk (blk_kept (by (with_reducible repeat (first | refine blk_drewN ?_ _ | refine blk_drew ?_ | refine blk_alloc ?_ _)); exact BK195.out) hkp (fun hs_ => (fun e_ => (Kd.R_ne HO0_1.out BK195.out (by decide)) e_) hs_)); have n3_ := Aside0.mk (Kept.then_ (S := (fun k_ => P0_0_ k_ ∨ P0_1_ k_)) (by repeat (first | (with_reducible first | exact HK.out | apply Kept.alloc | apply Kept.drewN | apply Kept.drew | refine Kept.setCell ?_ (.inr GW195.out) _) | exact HK.out)) hkp (fun k_ hs_ => (fun e_ => (HO0_1.out.1 k_ e_.symm)) hs_)); have n4_ := Aside0.mk (hb); clear HO0_0; clear HO0_1; clear BK195; clear HK; clear HB; have HO0_0 := n0_; have HO0_1 := n1_; have BK195 := n2_; have HK := n3_; have HB := n4_; clear n0_ n1_ n2_ n3_ n4_; (try clear hb); (try clear hkp); (try clear hy0)))
  go_ret
  exact ⟨by first | rfl | (simp [errW_none, errW_some] <;> rfl) | (simp [*, errW_none, errW_some] <;> rfl), by (with_reducible repeat (first | apply Kd.R_alloc | apply Kd.R_drewN | apply Kd.R_drew)); exact HO0_0.out, by (with_reducible repeat (first | apply Kd.R_alloc | apply Kd.R_drewN | apply Kd.R_drew)); exact HO0_1.out, by repeat (first | (with_reducible first | exact HB.out | apply below_alloc | apply pw_below_drewN | apply below_drew1 | refine below_set ?_ GE195.out) | exact HB.out), by repeat (first | (with_reducible first | exact HK.out | apply Kept.alloc | apply Kept.drewN | apply Kept.drew | refine Kept.setCell ?_ (.inr GW195.out) _) | exact HK.out)⟩

end Go.Proofs.Ythphhklbliambaa.MFnExactFlushDisk
