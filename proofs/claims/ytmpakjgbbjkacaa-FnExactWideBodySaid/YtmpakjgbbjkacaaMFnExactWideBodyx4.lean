-- Written by a program of this session (wip/tools/myprint.py) over the kit's print: it is not the kit's print.
import Derived.Test.YtmpakjgbbjkacaaExtra
import Derived.Test.YtmpakjgbbjkacaaMFnExactWideBodyx0
import Derived.Test.YtmpakjgbbjkacaaMFnExactWideBodyx3
namespace Go.Proofs.Ytmpakjgbbjkacaa.MFnExactWideBody
open Go.RowKit Go.Proofs.YtmpakjgbbjkacaaW.PrintWords Go.Proofs.YtmpakjgbbjkacaaW.PrintLast Go.Proofs.YtmpakjgbbjkacaaW.PrintMore
open List renaming setIfInBounds_toArray → sit, set_cons_zero → scz, set_cons_succ → scs, map_toArray → mta, map_cons → mco, map_nil → mni
open World renaming block_lt_of_cell? → blc
attribute [local go_sem] max2_int min2_int max_two min_two max_three min_three max_four min_four   -- for this text's walks alone
set_option linter.unusedVariables false
set_option linter.unusedSimpArgs false

/-! ### impl_WideOk: function 39 -/
set_option maxHeartbeats 4000000 in
set_option maxRecDepth 100000 in
theorem impl_WideOk.index (b1 : Addr) (p : ByteArray → Bool) (A0 : Option Addr) (c0 : Nat) (l0 : List ByteArray) (w : World) (hr0 : Kd.C Kd.string w A0 l0.length l0)
  (hp : ∀ (W : World) (x : ByteArray) , Below w.heap.size w W → x ∈ l0 → Calls Try.prog 75 #[.string x, .pointer (some b1)] W fun e w' => e = .returned (.bool (p x)) ∧ Below w.heap.size w w') :
  Calls Try.prog 106 #[.slice A0 l0.length c0, .func (.func 75) #[] #[.pointer (some b1)]] w fun e w' => e = .returned (.int .i64 (idxP p l0 0)) ∧ Below w.heap.size w w' := by
 have HR0 := am hr0
 have HP := am hp
 have hm : l0.length ≤ 9223372036854775807 := hr0.2.1
 clear hr0 hp
 go_enter Try.func106, Try.ntmps106
 go_wp2
 go_loopg [5, 8] l0.length (fun gg _ s8 wr => ∃ kk : Nat, kk ≤ l0.length ∧ l0.length - kk ≤ gg ∧ s8 = .int .i64 kk ∧ Aside0 (Below w.heap.size w wr) ∧ Aside0 (idxP p l0 0 = idxP p (l0.drop kk) kk))
 case atStart => exact ⟨0, Nat.zero_le _, by omega, rfl, ⟨Below.refl _ w⟩, ⟨rfl⟩⟩
 case round =>
  obtain ⟨kk, hkk, hg, rfl, BW, AI⟩ := hrel
  by_cases hlt : kk < l0.length
  ·have hltz : (kk : Int) < (l0.length : Int) := by omega
   obtain ⟨ad, e, hx0⟩ := Kd.at_string HR0.out (kk : Int) (by omega) hltz
   cases e
   rw [Int.toNat_natCast] at hx0
   replace hx0 := (BW.out.cell (blc w _ hx0)).trans hx0
   have HE : Aside0 (rdOf ByteArray.empty l0 (kk : Int) = l0[kk]) := ⟨by simp [rdOf, List.getD_eq_getElem?_getD, List.getElem?_eq_getElem hlt]⟩
   have hcall := HP.out wr (rdOf ByteArray.empty l0 (kk : Int))  BW.out (by rw [HE.out]; exact List.getElem_mem hlt)
   have HD := am (idxP_drop p l0 kk hlt)
   generalize rdOf ByteArray.empty l0 (kk : Int) = y at hx0 hcall HE
   cases hq : p y with
   | true =>
    rw [hq] at hcall
    have HQ := am hq
    clear hq
    go_wp2_with (go_at_call 75; refine hcall.mono ?_; rintro e w' ⟨rfl, hb'⟩)
    go_ret
    refine ⟨?_, hb'⟩
    rw [AI.out, HD.out, ← HE.out, if_pos HQ.out]
    rfl
   | false =>
    rw [hq] at hcall
    have HQ := am hq
    clear hq
    go_wp2_with (go_at_call 75; refine hcall.mono ?_; rintro e w' ⟨rfl, hb'⟩)
    go_roundg (l0.length - (kk + 1))
    case measure => omega
    case rel => exact ⟨kk + 1, by omega, by omega, by go_num, ⟨hb'⟩, ⟨by rw [AI.out, HD.out, ← HE.out, HQ.out]; rfl⟩⟩
  ·have hltz : ¬ (kk : Int) < (l0.length : Int) := by omega
   go_wp2
   go_ret
   refine ⟨?_, BW.out⟩
   rw [AI.out, List.drop_of_length_le (by omega)]
   rfl
set_option maxHeartbeats 2000000 in
theorem impl_WideOk.contains (b1 : Addr) (p : ByteArray → Bool) (A0 : Option Addr) (c0 : Nat) (l0 : List ByteArray) (w : World) (hr0 : Kd.C Kd.string w A0 l0.length l0)
  (hp : ∀ (W : World) (x : ByteArray) , Below w.heap.size w W → x ∈ l0 → Calls Try.prog 75 #[.string x, .pointer (some b1)] W fun e w' => e = .returned (.bool (p x)) ∧ Below w.heap.size w w') :
  Calls Try.prog 74 #[.slice A0 l0.length c0, .func (.func 75) #[] #[.pointer (some b1)]] w fun e w' => e = .returned (.bool (l0.any p)) ∧ Below w.heap.size w w' := by
 have HI := impl_WideOk.index b1 p A0 c0 l0 w hr0 hp
 have HQ := am (idxP_dec p l0)
 clear hr0 hp
 generalize idxP p l0 0 = q at HI HQ
 generalize l0.any p = b at HQ
 go_enter Try.func74, Try.ntmps74
 go_wp2_with (go_at_call 106; refine HI.mono ?_; rintro e w' ⟨rfl, hb⟩)
 go_ret
 exact ⟨by rw [← HQ.out]; rfl, hb⟩
/-- How tall a column is. -/
def impl_WideOk.tall (K U Z : Int) : Int := (Z + K * U - 1) / (K * U) * U
def impl_WideOk.code (K M : Int) : Bool := decide (1 ≤ K ∧ K ≤ 4) && decide (0 ≤ M ∧ M ≤ 3)
def impl_WideOk.f (K M U Z : Int) (l : List ByteArray) : Option Bool :=
 some ((impl_WideOk.code K M && (decide (1 ≤ U ∧ U ≤ 8) && (decide (0 ≤ Z ∧ Z ≤ 256) && ((l.length : Int) == wrap64 (K + M))))) && !l.any fun c => !((c.size : Int) == impl_WideOk.tall K U Z))
theorem impl_WideOk.btw (a b c : Int) : impl_between.f a b c = some (decide (b ≤ a ∧ a ≤ c)) := by
 unfold impl_between.f
 by_cases h : a ≥ b
 ·have h' : b ≤ a := h
  simp [h, h']
 ·have h' : ¬ b ≤ a := h
  simp [h, h']
theorem impl_WideOk.codeEq (K M : Int) : impl_CodeOk.f K M = some (impl_WideOk.code K M) := by
 unfold impl_CodeOk.f impl_WideOk.code
 simp only [impl_WideOk.btw, Option.bind_some]
 by_cases h : 1 ≤ K ∧ K ≤ 4
 ·simp [h]
 ·simp [h]
theorem impl_WideOk.lenEq (K M U Z : Int) (l : List ByteArray) (hK : 1 ≤ K ∧ K ≤ 4) (hU : 1 ≤ U ∧ U ≤ 8) (hZ : 0 ≤ Z ∧ Z ≤ 256) : impl_Wide_length.f K M U Z l = some (impl_WideOk.tall K U Z) := by
 have h1 : K * U ≤ 4 * 8 := Int.mul_le_mul hK.2 hU.2 (by omega) (by omega)
 have h2 : 0 < K * U := Int.mul_pos (by omega) (by omega)
 unfold impl_Wide_length.f impl_Wide_stripe.f impl_WideOk.tall
 simp only [Option.bind_some]
 have e1 : wrap64 (K * U) = K * U := by unfold wrap64; omega
 rw [e1]
 generalize K * U = D at h1 h2
 rw [if_neg (by omega)]
 have e2 : wrap64 (Z + D) = Z + D := by unfold wrap64; omega
 have e3 : wrap64 (Z + D - 1) = Z + D - 1 := by unfold wrap64; omega
 rw [e2, e3, Int.tdiv_eq_ediv_of_nonneg (by omega)]
 have q0 : 0 ≤ (Z + D - 1) / D := Int.ediv_nonneg (by omega) (by omega)
 have q1 : (Z + D - 1) / D ≤ Z + D - 1 := Int.ediv_le_self _ (by omega)
 generalize (Z + D - 1) / D = q at q0 q1
 have e4 : wrap64 q = q := by unfold wrap64; omega
 rw [e4]
 have p1 : q * U ≤ 287 * 8 := Int.mul_le_mul (by omega) hU.2 (by omega) (by omega)
 have p0 : 0 ≤ q * U := Int.mul_nonneg q0 (by omega)
 have e5 : wrap64 (q * U) = q * U := by unfold wrap64; omega
 rw [e5]
set_option maxHeartbeats 2000000 in
theorem impl_WideOk.pred (c : ByteArray) (g : Nat) (K M U Z : Int) (A : Option Addr) (cc : Nat) (l : List ByteArray) (hl : l.length ≤ cc) (W : World) (hx : Kd.C Kd.string W A l.length l)
  (h0 : W.cell? ⟨g, 0, none⟩ = some (.int .i64 K)) (h1 : W.cell? ⟨g, 1, none⟩ = some (.int .i64 M)) (h2 : W.cell? ⟨g, 2, none⟩ = some (.int .i64 U)) (h3 : W.cell? ⟨g, 3, none⟩ = some (.int .i64 Z)) (h4 : W.cell? ⟨g, 4, none⟩ = some (.slice A l.length cc))
  (T : Int) (hT : impl_Wide_length.f K M U Z l = some T) :
  Calls Try.prog 75 #[.string c, .pointer (some ⟨g, 0, none⟩)] W fun e w' => e = .returned (.bool (!((c.size : Int) == T))) ∧ Below W.heap.size W w' := by
 have HL := am (impl_Wide_length.calls K M U Z A cc l T W hx hl hT)
 clear hx hT hl
 go_enter Try.func75, Try.ntmps75
 go_wp2_with (go_at_call 49; refine HL.out.mono ?_; rintro e w' ⟨rfl, hb⟩)
 go_ret
 exact ⟨by first | rfl | simp [bne], hb⟩
def impl_WideOk.T1 : Bool × List (List Nat × List Nat) := (true, [([], []), ([0], [0]), ([1], [1]), ([2], [2]), ([3, 2], [3]), ([4], [4]), ([5, 4], [4, 5]), ([6, 4, 4], [4, 6]), ([7, 4], [4, 7]), ([4, 8], [4, 8]), ([9, 7], [9]), ([10], [10]), ([11, 10], [10, 11]), ([12, 10, 10], [10, 12]), ([13, 10], [10, 13]), ([10, 14], [10, 14]), ([15, 13], [15]), ([16], [16]), ([17, 16], [16, 17]), ([18, 16], [16, 18]), ([16], [16]), ([20, 16], [16, 20]), ([21, 16, 16], [16, 21]), ([19, 22, 16], [16, 19, 22]), ([16, 23], [16, 23])])
def impl_WideOk.B1 : List Nat := [0, 1, 3, 7, 15, 31, 63, 127, 255, 511, 1023, 2047, 4095, 8191, 16383, 32767, 65535, 131071, 262143, 524287, 131071, 1179647, 3276799, 8388607, 16777215]
theorem impl_WideOk.tab1 : rtab .any (opsOf Try.f39 1) = impl_WideOk.T1 := by kernel_rfl
theorem impl_WideOk.bits1 : waitsOk impl_WideOk.T1.2 impl_WideOk.B1 = true := by kernel_rfl
set_option maxHeartbeats 8000000 in
set_option maxRecDepth 100000 in
theorem impl_WideOk.calls (K : Int) (M : Int) (U : Int) (Z : Int) (A0_4 : Option Addr) (c0_4 : Nat) (l : List ByteArray) (r : Bool) (w : World) (hr0_4 : Kd.C Kd.string w A0_4 l.length l) (hc0_4 : l.length ≤ c0_4) (h : impl_WideOk.f K M U Z l = some r) :
  Calls Try.prog 39 #[.agg #[.int .i64 K, .int .i64 M, .int .i64 U, .int .i64 Z, .slice A0_4 l.length c0_4]] w fun e w' => e = .returned (.bool r) ∧ Below w.heap.size w w' := by
 have HE := am (Option.some.inj h)
 clear h
 obtain ⟨W1, hW1⟩ : ∃ W1, W1 = w.alloc (.cells #[.int .i64 K, .int .i64 M, .int .i64 U, .int .i64 Z, .slice A0_4 l.length c0_4] 32) := ⟨_, rfl⟩
 have hB : Below w.heap.size w W1 := by rw [hW1]; exact (Below.refl _ _).alloc (Nat.le_refl _) _
 have HS : Aside0 (∀ w', Below W1.heap.size W1 w' → (w'.cell? ⟨w.heap.size, 0, none⟩ = some (.int .i64 K) ∧ w'.cell? ⟨w.heap.size, 1, none⟩ = some (.int .i64 M) ∧ w'.cell? ⟨w.heap.size, 2, none⟩ = some (.int .i64 U) ∧ w'.cell? ⟨w.heap.size, 3, none⟩ = some (.int .i64 Z) ∧ w'.cell? ⟨w.heap.size, 4, none⟩ = some (.slice A0_4 l.length c0_4) ∧ Below W1.heap.size W1 w')) := ⟨fun w' hb => by
  have e : ∀ (p : Addr) (v : Value), W1.cell? p = some v → w'.cell? p = some v := fun p v hp => (hb.cell (blc W1 p hp)).trans hp
  exact ⟨e _ _ (by rw [hW1]; simp), e _ _ (by rw [hW1]; simp), e _ _ (by rw [hW1]; simp), e _ _ (by rw [hW1]; simp), e _ _ (by rw [hW1]; simp), hb⟩⟩
 have HC : Aside0 (∀ w', Below W1.heap.size W1 w' → Calls Try.prog 72 #[.agg #[.int .i64 K, .int .i64 M]] w' fun e w2 => e = .returned (.bool (impl_WideOk.code K M)) ∧ Below W1.heap.size W1 w2) := ⟨fun w' hb => (impl_CodeOk.calls K M _ w' (impl_WideOk.codeEq K M)).mono fun e w2 ⟨he, hb2⟩ => ⟨he, hb.trans (hb2.mono hb.size)⟩⟩
 have HT : ∀ (a b c : Int), Aside0 (∀ w', Below W1.heap.size W1 w' → Calls Try.prog 45 #[.int .i64 a, .int .i64 b, .int .i64 c] w' fun e w2 => e = .returned (.bool (decide (b ≤ a ∧ a ≤ c))) ∧ Below W1.heap.size W1 w2) := fun a b c => ⟨fun w' hb => (impl_between.calls a b c _ w' (impl_WideOk.btw a b c)).mono fun e w2 ⟨he, hd⟩ => ⟨he, hb.trans (hd.below.mono hb.size)⟩⟩
 have HT1 := HT U 1 8
 have HT2 := HT Z 0 256
 have HZ : Aside0 (∀ w', Below W1.heap.size W1 w' → Calls Try.prog 73 #[.agg #[.int .i64 K, .int .i64 M]] w' fun e w2 => e = .returned (.int .i64 (wrap64 (K + M))) ∧ Below W1.heap.size W1 w2) := ⟨fun w' hb => (impl_Code_size.calls K M _ w' rfl).mono fun e w2 ⟨he, hb2⟩ => ⟨he, hb.trans (hb2.mono hb.size)⟩⟩
 have HI : Aside0 (impl_WideOk.code K M = true → (1 ≤ U ∧ U ≤ 8) → (0 ≤ Z ∧ Z ≤ 256) → ∀ w', Below W1.heap.size W1 w' → Calls Try.prog 74 #[.slice A0_4 l.length c0_4, .func (.func 75) #[] #[.pointer (some ⟨w.heap.size, 0, none⟩)]] w' fun e w2 => e = .returned (.bool (l.any fun c => !((c.size : Int) == impl_WideOk.tall K U Z))) ∧ Below W1.heap.size W1 w2) := ⟨fun hc hU hZ w' hb => by
  have hK : 1 ≤ K ∧ K ≤ 4 := by unfold impl_WideOk.code at hc; simp only [Bool.and_eq_true, decide_eq_true_eq] at hc; exact hc.1
  have hT := impl_WideOk.lenEq K M U Z l hK hU hZ
  refine (impl_WideOk.contains ⟨w.heap.size, 0, none⟩ (fun c => !((c.size : Int) == impl_WideOk.tall K U Z)) A0_4 c0_4 l w' (Kd.C_below (Kd.C_below hr0_4 hB) hb) (fun W2 x hb2 _ => ?_)).mono fun e w2 ⟨he, hw⟩ => ⟨he, hb.trans (hw.mono hb.size)⟩
  obtain ⟨q0, q1, q2, q3, q4, _⟩ := HS.out W2 (hb.trans (hb2.mono hb.size))
  exact (impl_WideOk.pred x w.heap.size K M U Z A0_4 c0_4 l hc0_4 W2 (Kd.C_below (Kd.C_below (Kd.C_below hr0_4 hB) hb) hb2) q0 q1 q2 q3 q4 _ hT).mono fun e w2 ⟨he, hw⟩ => ⟨he, hb2.trans (hw.mono hb2.size)⟩⟩
 have HU : Aside0 (decide (1 ≤ U ∧ U ≤ 8) = true → 1 ≤ U ∧ U ≤ 8) := ⟨of_decide_eq_true⟩
 have HZZ : Aside0 (decide (0 ≤ Z ∧ Z ≤ 256) = true → 0 ≤ Z ∧ Z ≤ 256) := ⟨of_decide_eq_true⟩
 have HB := am hB
 generalize (l.any fun c => !((c.size : Int) == impl_WideOk.tall K U Z)) = AN at HI HE
 generalize impl_WideOk.code K M = g1 at HC HE HI
 generalize hg2 : decide (1 ≤ U ∧ U ≤ 8) = g2 at HT1 HE HU
 generalize hg3 : decide (0 ≤ Z ∧ Z ≤ 256) = g3 at HT2 HE HZZ
 generalize wrap64 (K + M) = sz at HZ HE
 have HW1 := am hW1
 clear hg2 hg3 HT hB hr0_4 hc0_4 hW1
 cases g1 with
 | false =>
  go_enter Try.func39, Try.ntmps39
  go_wp2
  rw [← HW1.out]
  refine start_ (n := 25) (S := fun w' => w'.cell? ⟨w.heap.size, 0, none⟩ = some (.int .i64 K) ∧ w'.cell? ⟨w.heap.size, 1, none⟩ = some (.int .i64 M) ∧ w'.cell? ⟨w.heap.size, 2, none⟩ = some (.int .i64 U) ∧ w'.cell? ⟨w.heap.size, 3, none⟩ = some (.int .i64 Z) ∧ w'.cell? ⟨w.heap.size, 4, none⟩ = some (.slice A0_4 l.length c0_4) ∧ Below W1.heap.size W1 w') (ds := []) #[false, false, false, false, false, false, false, false, false, false, false, false, false, false, false, false, false, false, false, false, false, false, false, false, false] (by kernel_rfl) rfl rfl (HS.out _ (below_drew (Below.refl _ _))) (fun hHeld => ?_)
  refine with_tabW impl_WideOk.tab1 impl_WideOk.bits1 (fun HT_ HW_ => ?_)
  generalize W1.drew = w9 at hHeld ⊢
  refine pure_ (i := 0) (N := some 3) (v := ?_) (a' := ?_) #[true, false, false, false, false, false, false, false, false, false, false, false, false, false, false, false, false, false, false, false, false, false, false, false, false] rfl rfl (any_of HT_.out (by kernel_rfl)) (fun _ _ _ h => h) (Or.inl ⟨by rfl, ?_⟩) ?_ ?_
  rotate_left
  ·intro w'
   go_simp
   with_reducible rfl
  rotate_left
  ·simp only [Act.put, sit, scz, scs, i64_w, i32_w]
   rfl
  refine take_ (i := 1) (N := some 4) (v := ?_) (a' := ?_) #[true, true, false, false, false, false, false, false, false, false, false, false, false, false, false, false, false, false, false, false, false, false, false, false, false] rfl rfl (take_ofW HT_.out HW_.out (by kernel_rfl)) (fun _ _ _ h => h) (Or.inl ⟨by rfl, ?_⟩) hHeld ?_ ?_
  rotate_left
  ·rintro w' ⟨s0, s1, s2, s3, s4, s5⟩
   go_simp
   with_reducible rfl
  rotate_left
  ·simp only [Act.put, sit, scz, scs, i64_w, i32_w]
   rfl
  refine one_ (i := 2) (N := some 5) #[true, true, true, false, false, false, false, false, false, false, false, false, false, false, false, false, false, false, false, false, false, false, false, false, false] rfl rfl (one_of HT_.out (by kernel_rfl)) (by decide) (fun KQ hK => ?_)
  refine goes_ Try.func72 (by kernel_rfl) rfl #[.agg #[.int .i64 K, .int .i64 M]] (by rfl) rfl rfl (by (try simp only [mta, mco, mni]); first | done | rfl) ?_
  with_reducible refine (HC.out _ hHeld.2.2.2.2.2).mono ?_
  rintro e w2 ⟨rfl, hb2⟩
  refine ⟨_, rfl, ?_⟩
  refine hK.out _ _ (HS.out _ hb2) (fun hHeld => ?_)
  clear hK KQ
  refine norm_ (a' := ?_) ?_ ?_
  rotate_left
  ·show Act.put _ (some 5) _ = _
   simp only [Act.put, sit, scz, scs, i64_w, i32_w]
   rfl
  refine pure_ (i := 3) (N := some 6) (v := ?_) (a' := ?_) #[true, true, true, true, false, false, false, false, false, false, false, false, false, false, false, false, false, false, false, false, false, false, false, false, false] rfl rfl (any_of HT_.out (by kernel_rfl)) (fun _ _ _ h => h) (Or.inl ⟨by rfl, ?_⟩) ?_ ?_
  rotate_left
  ·intro w'
   go_simp
   with_reducible rfl
  rotate_left
  ·simp only [Act.put, sit, scz, scs, i64_w, i32_w]
   rfl
  refine pure_ (i := 4) (N := some 7) (v := ?_) (a' := ?_) #[true, true, true, true, true, false, false, false, false, false, false, false, false, false, false, false, false, false, false, false, false, false, false, false, false] rfl rfl (any_of HT_.out (by kernel_rfl)) (fun _ _ _ h => h) (Or.inl ⟨by rfl, ?_⟩) ?_ ?_
  rotate_left
  ·intro w'
   go_simp
   with_reducible rfl
  rotate_left
  ·simp only [Act.put, sit, scz, scs, i64_w, i32_w]
   rfl
  refine pure_ (i := 5) (N := some 8) (v := undef) (a' := ?_) #[true, true, true, true, true, true, false, false, false, false, false, false, false, false, false, false, false, false, false, false, false, false, false, false, false] rfl rfl (any_of HT_.out (by kernel_rfl)) (fun _ _ _ h => h) (Or.inr ⟨by rfl, rfl⟩) ?_ ?_
  rotate_left
  ·simp only [Act.put, sit, scz, scs, i64_w, i32_w]
   rfl
  refine pure_ (i := 6) (N := some 9) (v := undef) (a' := ?_) #[true, true, true, true, true, true, true, false, false, false, false, false, false, false, false, false, false, false, false, false, false, false, false, false, false] rfl rfl (any_of HT_.out (by kernel_rfl)) (fun _ _ _ h => h) (Or.inr ⟨by rfl, rfl⟩) ?_ ?_
  rotate_left
  ·simp only [Act.put, sit, scz, scs, i64_w, i32_w]
   rfl
  refine pure_ (i := 7) (N := some 10) (v := undef) (a' := ?_) #[true, true, true, true, true, true, true, true, false, false, false, false, false, false, false, false, false, false, false, false, false, false, false, false, false] rfl rfl (any_of HT_.out (by kernel_rfl)) (fun _ _ _ h => h) (Or.inr ⟨by rfl, rfl⟩) ?_ ?_
  rotate_left
  ·simp only [Act.put, sit, scz, scs, i64_w, i32_w]
   rfl
  refine pure_ (i := 8) (N := some 11) (v := undef) (a' := ?_) #[true, true, true, true, true, true, true, true, true, false, false, false, false, false, false, false, false, false, false, false, false, false, false, false, false] rfl rfl (any_of HT_.out (by kernel_rfl)) (fun _ _ _ h => h) (Or.inr ⟨by rfl, rfl⟩) ?_ ?_
  rotate_left
  ·simp only [Act.put, sit, scz, scs, i64_w, i32_w]
   rfl
  refine pure_ (i := 9) (N := some 12) (v := ?_) (a' := ?_) #[true, true, true, true, true, true, true, true, true, true, false, false, false, false, false, false, false, false, false, false, false, false, false, false, false] rfl rfl (any_of HT_.out (by kernel_rfl)) (fun _ _ _ h => h) (Or.inl ⟨by rfl, ?_⟩) ?_ ?_
  rotate_left
  ·intro w'
   go_simp
   with_reducible rfl
  rotate_left
  ·simp only [Act.put, sit, scz, scs, i64_w, i32_w]
   rfl
  refine pure_ (i := 10) (N := some 13) (v := ?_) (a' := ?_) #[true, true, true, true, true, true, true, true, true, true, true, false, false, false, false, false, false, false, false, false, false, false, false, false, false] rfl rfl (any_of HT_.out (by kernel_rfl)) (fun _ _ _ h => h) (Or.inl ⟨by rfl, ?_⟩) ?_ ?_
  rotate_left
  ·intro w'
   go_simp
   with_reducible rfl
  rotate_left
  ·simp only [Act.put, sit, scz, scs, i64_w, i32_w]
   rfl
  refine pure_ (i := 11) (N := some 14) (v := undef) (a' := ?_) #[true, true, true, true, true, true, true, true, true, true, true, true, false, false, false, false, false, false, false, false, false, false, false, false, false] rfl rfl (any_of HT_.out (by kernel_rfl)) (fun _ _ _ h => h) (Or.inr ⟨by rfl, rfl⟩) ?_ ?_
  rotate_left
  ·simp only [Act.put, sit, scz, scs, i64_w, i32_w]
   rfl
  refine pure_ (i := 12) (N := some 15) (v := undef) (a' := ?_) #[true, true, true, true, true, true, true, true, true, true, true, true, true, false, false, false, false, false, false, false, false, false, false, false, false] rfl rfl (any_of HT_.out (by kernel_rfl)) (fun _ _ _ h => h) (Or.inr ⟨by rfl, rfl⟩) ?_ ?_
  rotate_left
  ·simp only [Act.put, sit, scz, scs, i64_w, i32_w]
   rfl
  refine pure_ (i := 13) (N := some 16) (v := undef) (a' := ?_) #[true, true, true, true, true, true, true, true, true, true, true, true, true, true, false, false, false, false, false, false, false, false, false, false, false] rfl rfl (any_of HT_.out (by kernel_rfl)) (fun _ _ _ h => h) (Or.inr ⟨by rfl, rfl⟩) ?_ ?_
  rotate_left
  ·simp only [Act.put, sit, scz, scs, i64_w, i32_w]
   rfl
  refine pure_ (i := 14) (N := some 17) (v := undef) (a' := ?_) #[true, true, true, true, true, true, true, true, true, true, true, true, true, true, true, false, false, false, false, false, false, false, false, false, false] rfl rfl (any_of HT_.out (by kernel_rfl)) (fun _ _ _ h => h) (Or.inr ⟨by rfl, rfl⟩) ?_ ?_
  rotate_left
  ·simp only [Act.put, sit, scz, scs, i64_w, i32_w]
   rfl
  refine pure_ (i := 15) (N := some 18) (v := ?_) (a' := ?_) #[true, true, true, true, true, true, true, true, true, true, true, true, true, true, true, true, false, false, false, false, false, false, false, false, false] rfl rfl (any_of HT_.out (by kernel_rfl)) (fun _ _ _ h => h) (Or.inl ⟨by rfl, ?_⟩) ?_ ?_
  rotate_left
  ·intro w'
   go_simp
   with_reducible rfl
  rotate_left
  ·simp only [Act.put, sit, scz, scs, i64_w, i32_w]
   rfl
  refine pure_ (i := 16) (N := some 19) (v := ?_) (a' := ?_) #[true, true, true, true, true, true, true, true, true, true, true, true, true, true, true, true, true, false, false, false, false, false, false, false, false] rfl rfl (any_of HT_.out (by kernel_rfl)) (fun _ _ _ h => h) (Or.inl ⟨by rfl, ?_⟩) ?_ ?_
  rotate_left
  ·intro w'
   go_simp
   with_reducible rfl
  rotate_left
  ·simp only [Act.put, sit, scz, scs, i64_w, i32_w]
   rfl
  refine pure_ (i := 17) (N := some 20) (v := undef) (a' := ?_) #[true, true, true, true, true, true, true, true, true, true, true, true, true, true, true, true, true, true, false, false, false, false, false, false, false] rfl rfl (any_of HT_.out (by kernel_rfl)) (fun _ _ _ h => h) (Or.inr ⟨by rfl, rfl⟩) ?_ ?_
  rotate_left
  ·simp only [Act.put, sit, scz, scs, i64_w, i32_w]
   rfl
  refine pure_ (i := 18) (N := some 21) (v := undef) (a' := ?_) #[true, true, true, true, true, true, true, true, true, true, true, true, true, true, true, true, true, true, true, false, false, false, false, false, false] rfl rfl (any_of HT_.out (by kernel_rfl)) (fun _ _ _ h => h) (Or.inr ⟨by rfl, rfl⟩) ?_ ?_
  rotate_left
  ·simp only [Act.put, sit, scz, scs, i64_w, i32_w]
   rfl
  refine pure_ (i := 19) (N := some 22) (v := undef) (a' := ?_) #[true, true, true, true, true, true, true, true, true, true, true, true, true, true, true, true, true, true, true, true, false, false, false, false, false] rfl rfl (any_of HT_.out (by kernel_rfl)) (fun _ _ _ h => h) (Or.inr ⟨by rfl, rfl⟩) ?_ ?_
  rotate_left
  ·simp only [Act.put, sit, scz, scs, i64_w, i32_w]
   rfl
  refine pure_ (i := 20) (N := some 23) (v := undef) (a' := ?_) #[true, true, true, true, true, true, true, true, true, true, true, true, true, true, true, true, true, true, true, true, true, false, false, false, false] rfl rfl (any_of HT_.out (by kernel_rfl)) (fun _ _ _ h => h) (Or.inr ⟨by rfl, rfl⟩) ?_ ?_
  rotate_left
  ·simp only [Act.put, sit, scz, scs, i64_w, i32_w]
   rfl
  refine pure_ (i := 21) (N := some 24) (v := undef) (a' := ?_) #[true, true, true, true, true, true, true, true, true, true, true, true, true, true, true, true, true, true, true, true, true, true, false, false, false] rfl rfl (any_of HT_.out (by kernel_rfl)) (fun _ _ _ h => h) (Or.inr ⟨by rfl, rfl⟩) ?_ ?_
  rotate_left
  ·simp only [Act.put, sit, scz, scs, i64_w, i32_w]
   rfl
  refine pure_ (i := 22) (N := some 25) (v := undef) (a' := ?_) #[true, true, true, true, true, true, true, true, true, true, true, true, true, true, true, true, true, true, true, true, true, true, true, false, false] rfl rfl (any_of HT_.out (by kernel_rfl)) (fun _ _ _ h => h) (Or.inr ⟨by rfl, rfl⟩) ?_ ?_
  rotate_left
  ·simp only [Act.put, sit, scz, scs, i64_w, i32_w]
   rfl
  refine pure_ (i := 23) (N := some 26) (v := undef) (a' := ?_) #[true, true, true, true, true, true, true, true, true, true, true, true, true, true, true, true, true, true, true, true, true, true, true, true, false] rfl rfl (any_of HT_.out (by kernel_rfl)) (fun _ _ _ h => h) (Or.inr ⟨by rfl, rfl⟩) ?_ ?_
  rotate_left
  ·simp only [Act.put, sit, scz, scs, i64_w, i32_w]
   rfl
  refine pure_ (i := 24) (N := some 27) (v := ?_) (a' := ?_) #[true, true, true, true, true, true, true, true, true, true, true, true, true, true, true, true, true, true, true, true, true, true, true, true, true] rfl rfl (any_of HT_.out (by kernel_rfl)) (fun _ _ _ h => h) (Or.inl ⟨by rfl, ?_⟩) ?_ ?_
  rotate_left
  ·intro w'
   go_simp
   with_reducible rfl
  rotate_left
  ·simp only [Act.put, sit, scz, scs, i64_w, i32_w]
   rfl
  refine done_ (done_of HT_.out (by kernel_rfl)) ?_
  go_wp2
  go_ret
  exact ⟨by rw [← HE.out]; simp [], HB.out.trans (hHeld.2.2.2.2.2.mono HB.out.size)⟩
 | true =>
  cases g2 with
  | false =>
   go_enter Try.func39, Try.ntmps39
   go_wp2
   rw [← HW1.out]
   refine start_ (n := 25) (S := fun w' => w'.cell? ⟨w.heap.size, 0, none⟩ = some (.int .i64 K) ∧ w'.cell? ⟨w.heap.size, 1, none⟩ = some (.int .i64 M) ∧ w'.cell? ⟨w.heap.size, 2, none⟩ = some (.int .i64 U) ∧ w'.cell? ⟨w.heap.size, 3, none⟩ = some (.int .i64 Z) ∧ w'.cell? ⟨w.heap.size, 4, none⟩ = some (.slice A0_4 l.length c0_4) ∧ Below W1.heap.size W1 w') (ds := []) #[false, false, false, false, false, false, false, false, false, false, false, false, false, false, false, false, false, false, false, false, false, false, false, false, false] (by kernel_rfl) rfl rfl (HS.out _ (below_drew (Below.refl _ _))) (fun hHeld => ?_)
   refine with_tabW impl_WideOk.tab1 impl_WideOk.bits1 (fun HT_ HW_ => ?_)
   generalize W1.drew = w9 at hHeld ⊢
   refine pure_ (i := 0) (N := some 3) (v := ?_) (a' := ?_) #[true, false, false, false, false, false, false, false, false, false, false, false, false, false, false, false, false, false, false, false, false, false, false, false, false] rfl rfl (any_of HT_.out (by kernel_rfl)) (fun _ _ _ h => h) (Or.inl ⟨by rfl, ?_⟩) ?_ ?_
   rotate_left
   ·intro w'
    go_simp
    with_reducible rfl
   rotate_left
   ·simp only [Act.put, sit, scz, scs, i64_w, i32_w]
    rfl
   refine take_ (i := 1) (N := some 4) (v := ?_) (a' := ?_) #[true, true, false, false, false, false, false, false, false, false, false, false, false, false, false, false, false, false, false, false, false, false, false, false, false] rfl rfl (take_ofW HT_.out HW_.out (by kernel_rfl)) (fun _ _ _ h => h) (Or.inl ⟨by rfl, ?_⟩) hHeld ?_ ?_
   rotate_left
   ·rintro w' ⟨s0, s1, s2, s3, s4, s5⟩
    go_simp
    with_reducible rfl
   rotate_left
   ·simp only [Act.put, sit, scz, scs, i64_w, i32_w]
    rfl
   refine one_ (i := 2) (N := some 5) #[true, true, true, false, false, false, false, false, false, false, false, false, false, false, false, false, false, false, false, false, false, false, false, false, false] rfl rfl (one_of HT_.out (by kernel_rfl)) (by decide) (fun KQ hK => ?_)
   refine goes_ Try.func72 (by kernel_rfl) rfl #[.agg #[.int .i64 K, .int .i64 M]] (by rfl) rfl rfl (by (try simp only [mta, mco, mni]); first | done | rfl) ?_
   with_reducible refine (HC.out _ hHeld.2.2.2.2.2).mono ?_
   rintro e w2 ⟨rfl, hb2⟩
   refine ⟨_, rfl, ?_⟩
   refine hK.out _ _ (HS.out _ hb2) (fun hHeld => ?_)
   clear hK KQ
   refine norm_ (a' := ?_) ?_ ?_
   rotate_left
   ·show Act.put _ (some 5) _ = _
    simp only [Act.put, sit, scz, scs, i64_w, i32_w]
    rfl
   refine pure_ (i := 3) (N := some 6) (v := ?_) (a' := ?_) #[true, true, true, true, false, false, false, false, false, false, false, false, false, false, false, false, false, false, false, false, false, false, false, false, false] rfl rfl (any_of HT_.out (by kernel_rfl)) (fun _ _ _ h => h) (Or.inl ⟨by rfl, ?_⟩) ?_ ?_
   rotate_left
   ·intro w'
    go_simp
    with_reducible rfl
   rotate_left
   ·simp only [Act.put, sit, scz, scs, i64_w, i32_w]
    rfl
   refine pure_ (i := 4) (N := some 7) (v := ?_) (a' := ?_) #[true, true, true, true, true, false, false, false, false, false, false, false, false, false, false, false, false, false, false, false, false, false, false, false, false] rfl rfl (any_of HT_.out (by kernel_rfl)) (fun _ _ _ h => h) (Or.inl ⟨by rfl, ?_⟩) ?_ ?_
   rotate_left
   ·intro w'
    go_simp
    with_reducible rfl
   rotate_left
   ·simp only [Act.put, sit, scz, scs, i64_w, i32_w]
    rfl
   refine pure_ (i := 5) (N := some 8) (v := ?_) (a' := ?_) #[true, true, true, true, true, true, false, false, false, false, false, false, false, false, false, false, false, false, false, false, false, false, false, false, false] rfl rfl (any_of HT_.out (by kernel_rfl)) (fun _ _ _ h => h) (Or.inl ⟨by rfl, ?_⟩) ?_ ?_
   rotate_left
   ·intro w'
    go_simp
    with_reducible rfl
   rotate_left
   ·simp only [Act.put, sit, scz, scs, i64_w, i32_w]
    rfl
   refine take_ (i := 6) (N := some 9) (v := ?_) (a' := ?_) #[true, true, true, true, true, true, true, false, false, false, false, false, false, false, false, false, false, false, false, false, false, false, false, false, false] rfl rfl (take_ofW HT_.out HW_.out (by kernel_rfl)) (fun _ _ _ h => h) (Or.inl ⟨by rfl, ?_⟩) hHeld ?_ ?_
   rotate_left
   ·rintro w' ⟨s0, s1, s2, s3, s4, s5⟩
    go_simp
    with_reducible rfl
   rotate_left
   ·simp only [Act.put, sit, scz, scs, i64_w, i32_w]
    rfl
   refine one_ (i := 7) (N := some 10) #[true, true, true, true, true, true, true, true, false, false, false, false, false, false, false, false, false, false, false, false, false, false, false, false, false] rfl rfl (one_of HT_.out (by kernel_rfl)) (by decide) (fun KQ hK => ?_)
   refine goes_ Try.func45 (by kernel_rfl) rfl #[.int .i64 U, .int .i64 1, .int .i64 8] (by rfl) rfl rfl (by (try simp only [mta, mco, mni]); first | done | rfl) ?_
   with_reducible refine (HT1.out _ hHeld.2.2.2.2.2).mono ?_
   rintro e w2 ⟨rfl, hb2⟩
   refine ⟨_, rfl, ?_⟩
   refine hK.out _ _ (HS.out _ hb2) (fun hHeld => ?_)
   clear hK KQ
   refine norm_ (a' := ?_) ?_ ?_
   rotate_left
   ·show Act.put _ (some 10) _ = _
    simp only [Act.put, sit, scz, scs, i64_w, i32_w]
    rfl
   refine pure_ (i := 8) (N := some 11) (v := ?_) (a' := ?_) #[true, true, true, true, true, true, true, true, true, false, false, false, false, false, false, false, false, false, false, false, false, false, false, false, false] rfl rfl (any_of HT_.out (by kernel_rfl)) (fun _ _ _ h => h) (Or.inl ⟨by rfl, ?_⟩) ?_ ?_
   rotate_left
   ·intro w'
    go_simp
    with_reducible rfl
   rotate_left
   ·simp only [Act.put, sit, scz, scs, i64_w, i32_w]
    rfl
   refine pure_ (i := 9) (N := some 12) (v := ?_) (a' := ?_) #[true, true, true, true, true, true, true, true, true, true, false, false, false, false, false, false, false, false, false, false, false, false, false, false, false] rfl rfl (any_of HT_.out (by kernel_rfl)) (fun _ _ _ h => h) (Or.inl ⟨by rfl, ?_⟩) ?_ ?_
   rotate_left
   ·intro w'
    go_simp
    with_reducible rfl
   rotate_left
   ·simp only [Act.put, sit, scz, scs, i64_w, i32_w]
    rfl
   refine pure_ (i := 10) (N := some 13) (v := ?_) (a' := ?_) #[true, true, true, true, true, true, true, true, true, true, true, false, false, false, false, false, false, false, false, false, false, false, false, false, false] rfl rfl (any_of HT_.out (by kernel_rfl)) (fun _ _ _ h => h) (Or.inl ⟨by rfl, ?_⟩) ?_ ?_
   rotate_left
   ·intro w'
    go_simp
    with_reducible rfl
   rotate_left
   ·simp only [Act.put, sit, scz, scs, i64_w, i32_w]
    rfl
   refine pure_ (i := 11) (N := some 14) (v := undef) (a' := ?_) #[true, true, true, true, true, true, true, true, true, true, true, true, false, false, false, false, false, false, false, false, false, false, false, false, false] rfl rfl (any_of HT_.out (by kernel_rfl)) (fun _ _ _ h => h) (Or.inr ⟨by rfl, rfl⟩) ?_ ?_
   rotate_left
   ·simp only [Act.put, sit, scz, scs, i64_w, i32_w]
    rfl
   refine pure_ (i := 12) (N := some 15) (v := undef) (a' := ?_) #[true, true, true, true, true, true, true, true, true, true, true, true, true, false, false, false, false, false, false, false, false, false, false, false, false] rfl rfl (any_of HT_.out (by kernel_rfl)) (fun _ _ _ h => h) (Or.inr ⟨by rfl, rfl⟩) ?_ ?_
   rotate_left
   ·simp only [Act.put, sit, scz, scs, i64_w, i32_w]
    rfl
   refine pure_ (i := 13) (N := some 16) (v := undef) (a' := ?_) #[true, true, true, true, true, true, true, true, true, true, true, true, true, true, false, false, false, false, false, false, false, false, false, false, false] rfl rfl (any_of HT_.out (by kernel_rfl)) (fun _ _ _ h => h) (Or.inr ⟨by rfl, rfl⟩) ?_ ?_
   rotate_left
   ·simp only [Act.put, sit, scz, scs, i64_w, i32_w]
    rfl
   refine pure_ (i := 14) (N := some 17) (v := undef) (a' := ?_) #[true, true, true, true, true, true, true, true, true, true, true, true, true, true, true, false, false, false, false, false, false, false, false, false, false] rfl rfl (any_of HT_.out (by kernel_rfl)) (fun _ _ _ h => h) (Or.inr ⟨by rfl, rfl⟩) ?_ ?_
   rotate_left
   ·simp only [Act.put, sit, scz, scs, i64_w, i32_w]
    rfl
   refine pure_ (i := 15) (N := some 18) (v := ?_) (a' := ?_) #[true, true, true, true, true, true, true, true, true, true, true, true, true, true, true, true, false, false, false, false, false, false, false, false, false] rfl rfl (any_of HT_.out (by kernel_rfl)) (fun _ _ _ h => h) (Or.inl ⟨by rfl, ?_⟩) ?_ ?_
   rotate_left
   ·intro w'
    go_simp
    with_reducible rfl
   rotate_left
   ·simp only [Act.put, sit, scz, scs, i64_w, i32_w]
    rfl
   refine pure_ (i := 16) (N := some 19) (v := ?_) (a' := ?_) #[true, true, true, true, true, true, true, true, true, true, true, true, true, true, true, true, true, false, false, false, false, false, false, false, false] rfl rfl (any_of HT_.out (by kernel_rfl)) (fun _ _ _ h => h) (Or.inl ⟨by rfl, ?_⟩) ?_ ?_
   rotate_left
   ·intro w'
    go_simp
    with_reducible rfl
   rotate_left
   ·simp only [Act.put, sit, scz, scs, i64_w, i32_w]
    rfl
   refine pure_ (i := 17) (N := some 20) (v := undef) (a' := ?_) #[true, true, true, true, true, true, true, true, true, true, true, true, true, true, true, true, true, true, false, false, false, false, false, false, false] rfl rfl (any_of HT_.out (by kernel_rfl)) (fun _ _ _ h => h) (Or.inr ⟨by rfl, rfl⟩) ?_ ?_
   rotate_left
   ·simp only [Act.put, sit, scz, scs, i64_w, i32_w]
    rfl
   refine pure_ (i := 18) (N := some 21) (v := undef) (a' := ?_) #[true, true, true, true, true, true, true, true, true, true, true, true, true, true, true, true, true, true, true, false, false, false, false, false, false] rfl rfl (any_of HT_.out (by kernel_rfl)) (fun _ _ _ h => h) (Or.inr ⟨by rfl, rfl⟩) ?_ ?_
   rotate_left
   ·simp only [Act.put, sit, scz, scs, i64_w, i32_w]
    rfl
   refine pure_ (i := 19) (N := some 22) (v := undef) (a' := ?_) #[true, true, true, true, true, true, true, true, true, true, true, true, true, true, true, true, true, true, true, true, false, false, false, false, false] rfl rfl (any_of HT_.out (by kernel_rfl)) (fun _ _ _ h => h) (Or.inr ⟨by rfl, rfl⟩) ?_ ?_
   rotate_left
   ·simp only [Act.put, sit, scz, scs, i64_w, i32_w]
    rfl
   refine pure_ (i := 20) (N := some 23) (v := undef) (a' := ?_) #[true, true, true, true, true, true, true, true, true, true, true, true, true, true, true, true, true, true, true, true, true, false, false, false, false] rfl rfl (any_of HT_.out (by kernel_rfl)) (fun _ _ _ h => h) (Or.inr ⟨by rfl, rfl⟩) ?_ ?_
   rotate_left
   ·simp only [Act.put, sit, scz, scs, i64_w, i32_w]
    rfl
   refine pure_ (i := 21) (N := some 24) (v := undef) (a' := ?_) #[true, true, true, true, true, true, true, true, true, true, true, true, true, true, true, true, true, true, true, true, true, true, false, false, false] rfl rfl (any_of HT_.out (by kernel_rfl)) (fun _ _ _ h => h) (Or.inr ⟨by rfl, rfl⟩) ?_ ?_
   rotate_left
   ·simp only [Act.put, sit, scz, scs, i64_w, i32_w]
    rfl
   refine pure_ (i := 22) (N := some 25) (v := undef) (a' := ?_) #[true, true, true, true, true, true, true, true, true, true, true, true, true, true, true, true, true, true, true, true, true, true, true, false, false] rfl rfl (any_of HT_.out (by kernel_rfl)) (fun _ _ _ h => h) (Or.inr ⟨by rfl, rfl⟩) ?_ ?_
   rotate_left
   ·simp only [Act.put, sit, scz, scs, i64_w, i32_w]
    rfl
   refine pure_ (i := 23) (N := some 26) (v := undef) (a' := ?_) #[true, true, true, true, true, true, true, true, true, true, true, true, true, true, true, true, true, true, true, true, true, true, true, true, false] rfl rfl (any_of HT_.out (by kernel_rfl)) (fun _ _ _ h => h) (Or.inr ⟨by rfl, rfl⟩) ?_ ?_
   rotate_left
   ·simp only [Act.put, sit, scz, scs, i64_w, i32_w]
    rfl
   refine pure_ (i := 24) (N := some 27) (v := ?_) (a' := ?_) #[true, true, true, true, true, true, true, true, true, true, true, true, true, true, true, true, true, true, true, true, true, true, true, true, true] rfl rfl (any_of HT_.out (by kernel_rfl)) (fun _ _ _ h => h) (Or.inl ⟨by rfl, ?_⟩) ?_ ?_
   rotate_left
   ·intro w'
    go_simp
    with_reducible rfl
   rotate_left
   ·simp only [Act.put, sit, scz, scs, i64_w, i32_w]
    rfl
   refine done_ (done_of HT_.out (by kernel_rfl)) ?_
   go_wp2
   go_ret
   exact ⟨by rw [← HE.out]; simp [], HB.out.trans (hHeld.2.2.2.2.2.mono HB.out.size)⟩
  | true =>
   cases g3 with
   | false =>
    go_enter Try.func39, Try.ntmps39
    go_wp2
    rw [← HW1.out]
    refine start_ (n := 25) (S := fun w' => w'.cell? ⟨w.heap.size, 0, none⟩ = some (.int .i64 K) ∧ w'.cell? ⟨w.heap.size, 1, none⟩ = some (.int .i64 M) ∧ w'.cell? ⟨w.heap.size, 2, none⟩ = some (.int .i64 U) ∧ w'.cell? ⟨w.heap.size, 3, none⟩ = some (.int .i64 Z) ∧ w'.cell? ⟨w.heap.size, 4, none⟩ = some (.slice A0_4 l.length c0_4) ∧ Below W1.heap.size W1 w') (ds := []) #[false, false, false, false, false, false, false, false, false, false, false, false, false, false, false, false, false, false, false, false, false, false, false, false, false] (by kernel_rfl) rfl rfl (HS.out _ (below_drew (Below.refl _ _))) (fun hHeld => ?_)
    refine with_tabW impl_WideOk.tab1 impl_WideOk.bits1 (fun HT_ HW_ => ?_)
    generalize W1.drew = w9 at hHeld ⊢
    refine pure_ (i := 0) (N := some 3) (v := ?_) (a' := ?_) #[true, false, false, false, false, false, false, false, false, false, false, false, false, false, false, false, false, false, false, false, false, false, false, false, false] rfl rfl (any_of HT_.out (by kernel_rfl)) (fun _ _ _ h => h) (Or.inl ⟨by rfl, ?_⟩) ?_ ?_
    rotate_left
    ·intro w'
     go_simp
     with_reducible rfl
    rotate_left
    ·simp only [Act.put, sit, scz, scs, i64_w, i32_w]
     rfl
    refine take_ (i := 1) (N := some 4) (v := ?_) (a' := ?_) #[true, true, false, false, false, false, false, false, false, false, false, false, false, false, false, false, false, false, false, false, false, false, false, false, false] rfl rfl (take_ofW HT_.out HW_.out (by kernel_rfl)) (fun _ _ _ h => h) (Or.inl ⟨by rfl, ?_⟩) hHeld ?_ ?_
    rotate_left
    ·rintro w' ⟨s0, s1, s2, s3, s4, s5⟩
     go_simp
     with_reducible rfl
    rotate_left
    ·simp only [Act.put, sit, scz, scs, i64_w, i32_w]
     rfl
    refine one_ (i := 2) (N := some 5) #[true, true, true, false, false, false, false, false, false, false, false, false, false, false, false, false, false, false, false, false, false, false, false, false, false] rfl rfl (one_of HT_.out (by kernel_rfl)) (by decide) (fun KQ hK => ?_)
    refine goes_ Try.func72 (by kernel_rfl) rfl #[.agg #[.int .i64 K, .int .i64 M]] (by rfl) rfl rfl (by (try simp only [mta, mco, mni]); first | done | rfl) ?_
    with_reducible refine (HC.out _ hHeld.2.2.2.2.2).mono ?_
    rintro e w2 ⟨rfl, hb2⟩
    refine ⟨_, rfl, ?_⟩
    refine hK.out _ _ (HS.out _ hb2) (fun hHeld => ?_)
    clear hK KQ
    refine norm_ (a' := ?_) ?_ ?_
    rotate_left
    ·show Act.put _ (some 5) _ = _
     simp only [Act.put, sit, scz, scs, i64_w, i32_w]
     rfl
    refine pure_ (i := 3) (N := some 6) (v := ?_) (a' := ?_) #[true, true, true, true, false, false, false, false, false, false, false, false, false, false, false, false, false, false, false, false, false, false, false, false, false] rfl rfl (any_of HT_.out (by kernel_rfl)) (fun _ _ _ h => h) (Or.inl ⟨by rfl, ?_⟩) ?_ ?_
    rotate_left
    ·intro w'
     go_simp
     with_reducible rfl
    rotate_left
    ·simp only [Act.put, sit, scz, scs, i64_w, i32_w]
     rfl
    refine pure_ (i := 4) (N := some 7) (v := ?_) (a' := ?_) #[true, true, true, true, true, false, false, false, false, false, false, false, false, false, false, false, false, false, false, false, false, false, false, false, false] rfl rfl (any_of HT_.out (by kernel_rfl)) (fun _ _ _ h => h) (Or.inl ⟨by rfl, ?_⟩) ?_ ?_
    rotate_left
    ·intro w'
     go_simp
     with_reducible rfl
    rotate_left
    ·simp only [Act.put, sit, scz, scs, i64_w, i32_w]
     rfl
    refine pure_ (i := 5) (N := some 8) (v := ?_) (a' := ?_) #[true, true, true, true, true, true, false, false, false, false, false, false, false, false, false, false, false, false, false, false, false, false, false, false, false] rfl rfl (any_of HT_.out (by kernel_rfl)) (fun _ _ _ h => h) (Or.inl ⟨by rfl, ?_⟩) ?_ ?_
    rotate_left
    ·intro w'
     go_simp
     with_reducible rfl
    rotate_left
    ·simp only [Act.put, sit, scz, scs, i64_w, i32_w]
     rfl
    refine take_ (i := 6) (N := some 9) (v := ?_) (a' := ?_) #[true, true, true, true, true, true, true, false, false, false, false, false, false, false, false, false, false, false, false, false, false, false, false, false, false] rfl rfl (take_ofW HT_.out HW_.out (by kernel_rfl)) (fun _ _ _ h => h) (Or.inl ⟨by rfl, ?_⟩) hHeld ?_ ?_
    rotate_left
    ·rintro w' ⟨s0, s1, s2, s3, s4, s5⟩
     go_simp
     with_reducible rfl
    rotate_left
    ·simp only [Act.put, sit, scz, scs, i64_w, i32_w]
     rfl
    refine one_ (i := 7) (N := some 10) #[true, true, true, true, true, true, true, true, false, false, false, false, false, false, false, false, false, false, false, false, false, false, false, false, false] rfl rfl (one_of HT_.out (by kernel_rfl)) (by decide) (fun KQ hK => ?_)
    refine goes_ Try.func45 (by kernel_rfl) rfl #[.int .i64 U, .int .i64 1, .int .i64 8] (by rfl) rfl rfl (by (try simp only [mta, mco, mni]); first | done | rfl) ?_
    with_reducible refine (HT1.out _ hHeld.2.2.2.2.2).mono ?_
    rintro e w2 ⟨rfl, hb2⟩
    refine ⟨_, rfl, ?_⟩
    refine hK.out _ _ (HS.out _ hb2) (fun hHeld => ?_)
    clear hK KQ
    refine norm_ (a' := ?_) ?_ ?_
    rotate_left
    ·show Act.put _ (some 10) _ = _
     simp only [Act.put, sit, scz, scs, i64_w, i32_w]
     rfl
    refine pure_ (i := 8) (N := some 11) (v := ?_) (a' := ?_) #[true, true, true, true, true, true, true, true, true, false, false, false, false, false, false, false, false, false, false, false, false, false, false, false, false] rfl rfl (any_of HT_.out (by kernel_rfl)) (fun _ _ _ h => h) (Or.inl ⟨by rfl, ?_⟩) ?_ ?_
    rotate_left
    ·intro w'
     go_simp
     with_reducible rfl
    rotate_left
    ·simp only [Act.put, sit, scz, scs, i64_w, i32_w]
     rfl
    refine pure_ (i := 9) (N := some 12) (v := ?_) (a' := ?_) #[true, true, true, true, true, true, true, true, true, true, false, false, false, false, false, false, false, false, false, false, false, false, false, false, false] rfl rfl (any_of HT_.out (by kernel_rfl)) (fun _ _ _ h => h) (Or.inl ⟨by rfl, ?_⟩) ?_ ?_
    rotate_left
    ·intro w'
     go_simp
     with_reducible rfl
    rotate_left
    ·simp only [Act.put, sit, scz, scs, i64_w, i32_w]
     rfl
    refine pure_ (i := 10) (N := some 13) (v := ?_) (a' := ?_) #[true, true, true, true, true, true, true, true, true, true, true, false, false, false, false, false, false, false, false, false, false, false, false, false, false] rfl rfl (any_of HT_.out (by kernel_rfl)) (fun _ _ _ h => h) (Or.inl ⟨by rfl, ?_⟩) ?_ ?_
    rotate_left
    ·intro w'
     go_simp
     with_reducible rfl
    rotate_left
    ·simp only [Act.put, sit, scz, scs, i64_w, i32_w]
     rfl
    refine pure_ (i := 11) (N := some 14) (v := ?_) (a' := ?_) #[true, true, true, true, true, true, true, true, true, true, true, true, false, false, false, false, false, false, false, false, false, false, false, false, false] rfl rfl (any_of HT_.out (by kernel_rfl)) (fun _ _ _ h => h) (Or.inl ⟨by rfl, ?_⟩) ?_ ?_
    rotate_left
    ·intro w'
     go_simp
     with_reducible rfl
    rotate_left
    ·simp only [Act.put, sit, scz, scs, i64_w, i32_w]
     rfl
    refine take_ (i := 12) (N := some 15) (v := ?_) (a' := ?_) #[true, true, true, true, true, true, true, true, true, true, true, true, true, false, false, false, false, false, false, false, false, false, false, false, false] rfl rfl (take_ofW HT_.out HW_.out (by kernel_rfl)) (fun _ _ _ h => h) (Or.inl ⟨by rfl, ?_⟩) hHeld ?_ ?_
    rotate_left
    ·rintro w' ⟨s0, s1, s2, s3, s4, s5⟩
     go_simp
     with_reducible rfl
    rotate_left
    ·simp only [Act.put, sit, scz, scs, i64_w, i32_w]
     rfl
    refine one_ (i := 13) (N := some 16) #[true, true, true, true, true, true, true, true, true, true, true, true, true, true, false, false, false, false, false, false, false, false, false, false, false] rfl rfl (one_of HT_.out (by kernel_rfl)) (by decide) (fun KQ hK => ?_)
    refine goes_ Try.func45 (by kernel_rfl) rfl #[.int .i64 Z, .int .i64 0, .int .i64 256] (by rfl) rfl rfl (by (try simp only [mta, mco, mni]); first | done | rfl) ?_
    with_reducible refine (HT2.out _ hHeld.2.2.2.2.2).mono ?_
    rintro e w2 ⟨rfl, hb2⟩
    refine ⟨_, rfl, ?_⟩
    refine hK.out _ _ (HS.out _ hb2) (fun hHeld => ?_)
    clear hK KQ
    refine norm_ (a' := ?_) ?_ ?_
    rotate_left
    ·show Act.put _ (some 16) _ = _
     simp only [Act.put, sit, scz, scs, i64_w, i32_w]
     rfl
    refine pure_ (i := 14) (N := some 17) (v := ?_) (a' := ?_) #[true, true, true, true, true, true, true, true, true, true, true, true, true, true, true, false, false, false, false, false, false, false, false, false, false] rfl rfl (any_of HT_.out (by kernel_rfl)) (fun _ _ _ h => h) (Or.inl ⟨by rfl, ?_⟩) ?_ ?_
    rotate_left
    ·intro w'
     go_simp
     with_reducible rfl
    rotate_left
    ·simp only [Act.put, sit, scz, scs, i64_w, i32_w]
     rfl
    refine pure_ (i := 15) (N := some 18) (v := ?_) (a' := ?_) #[true, true, true, true, true, true, true, true, true, true, true, true, true, true, true, true, false, false, false, false, false, false, false, false, false] rfl rfl (any_of HT_.out (by kernel_rfl)) (fun _ _ _ h => h) (Or.inl ⟨by rfl, ?_⟩) ?_ ?_
    rotate_left
    ·intro w'
     go_simp
     with_reducible rfl
    rotate_left
    ·simp only [Act.put, sit, scz, scs, i64_w, i32_w]
     rfl
    refine pure_ (i := 16) (N := some 19) (v := ?_) (a' := ?_) #[true, true, true, true, true, true, true, true, true, true, true, true, true, true, true, true, true, false, false, false, false, false, false, false, false] rfl rfl (any_of HT_.out (by kernel_rfl)) (fun _ _ _ h => h) (Or.inl ⟨by rfl, ?_⟩) ?_ ?_
    rotate_left
    ·intro w'
     go_simp
     with_reducible rfl
    rotate_left
    ·simp only [Act.put, sit, scz, scs, i64_w, i32_w]
     rfl
    refine pure_ (i := 17) (N := some 20) (v := undef) (a' := ?_) #[true, true, true, true, true, true, true, true, true, true, true, true, true, true, true, true, true, true, false, false, false, false, false, false, false] rfl rfl (any_of HT_.out (by kernel_rfl)) (fun _ _ _ h => h) (Or.inr ⟨by rfl, rfl⟩) ?_ ?_
    rotate_left
    ·simp only [Act.put, sit, scz, scs, i64_w, i32_w]
     rfl
    refine pure_ (i := 18) (N := some 21) (v := undef) (a' := ?_) #[true, true, true, true, true, true, true, true, true, true, true, true, true, true, true, true, true, true, true, false, false, false, false, false, false] rfl rfl (any_of HT_.out (by kernel_rfl)) (fun _ _ _ h => h) (Or.inr ⟨by rfl, rfl⟩) ?_ ?_
    rotate_left
    ·simp only [Act.put, sit, scz, scs, i64_w, i32_w]
     rfl
    refine pure_ (i := 19) (N := some 22) (v := undef) (a' := ?_) #[true, true, true, true, true, true, true, true, true, true, true, true, true, true, true, true, true, true, true, true, false, false, false, false, false] rfl rfl (any_of HT_.out (by kernel_rfl)) (fun _ _ _ h => h) (Or.inr ⟨by rfl, rfl⟩) ?_ ?_
    rotate_left
    ·simp only [Act.put, sit, scz, scs, i64_w, i32_w]
     rfl
    refine pure_ (i := 20) (N := some 23) (v := undef) (a' := ?_) #[true, true, true, true, true, true, true, true, true, true, true, true, true, true, true, true, true, true, true, true, true, false, false, false, false] rfl rfl (any_of HT_.out (by kernel_rfl)) (fun _ _ _ h => h) (Or.inr ⟨by rfl, rfl⟩) ?_ ?_
    rotate_left
    ·simp only [Act.put, sit, scz, scs, i64_w, i32_w]
     rfl
    refine pure_ (i := 21) (N := some 24) (v := undef) (a' := ?_) #[true, true, true, true, true, true, true, true, true, true, true, true, true, true, true, true, true, true, true, true, true, true, false, false, false] rfl rfl (any_of HT_.out (by kernel_rfl)) (fun _ _ _ h => h) (Or.inr ⟨by rfl, rfl⟩) ?_ ?_
    rotate_left
    ·simp only [Act.put, sit, scz, scs, i64_w, i32_w]
     rfl
    refine pure_ (i := 22) (N := some 25) (v := undef) (a' := ?_) #[true, true, true, true, true, true, true, true, true, true, true, true, true, true, true, true, true, true, true, true, true, true, true, false, false] rfl rfl (any_of HT_.out (by kernel_rfl)) (fun _ _ _ h => h) (Or.inr ⟨by rfl, rfl⟩) ?_ ?_
    rotate_left
    ·simp only [Act.put, sit, scz, scs, i64_w, i32_w]
     rfl
    refine pure_ (i := 23) (N := some 26) (v := undef) (a' := ?_) #[true, true, true, true, true, true, true, true, true, true, true, true, true, true, true, true, true, true, true, true, true, true, true, true, false] rfl rfl (any_of HT_.out (by kernel_rfl)) (fun _ _ _ h => h) (Or.inr ⟨by rfl, rfl⟩) ?_ ?_
    rotate_left
    ·simp only [Act.put, sit, scz, scs, i64_w, i32_w]
     rfl
    refine pure_ (i := 24) (N := some 27) (v := ?_) (a' := ?_) #[true, true, true, true, true, true, true, true, true, true, true, true, true, true, true, true, true, true, true, true, true, true, true, true, true] rfl rfl (any_of HT_.out (by kernel_rfl)) (fun _ _ _ h => h) (Or.inl ⟨by rfl, ?_⟩) ?_ ?_
    rotate_left
    ·intro w'
     go_simp
     with_reducible rfl
    rotate_left
    ·simp only [Act.put, sit, scz, scs, i64_w, i32_w]
     rfl
    refine done_ (done_of HT_.out (by kernel_rfl)) ?_
    go_wp2
    go_ret
    exact ⟨by rw [← HE.out]; simp [], HB.out.trans (hHeld.2.2.2.2.2.mono HB.out.size)⟩
   | true =>
    by_cases h4 : (l.length : Int) = sz
    ·have h4a : ((l.length : Int) == sz) = true := beq_iff_eq.mpr h4
     have h4b : ((l.length : Int) != sz) = false := bne_eq_false_iff_eq.mpr h4
     clear h4
     have HJ := am (HI.out rfl (HU.out rfl) (HZZ.out rfl))
     clear HI HU HZZ
     go_enter Try.func39, Try.ntmps39
     go_wp2
     rw [← HW1.out]
     refine start_ (n := 25) (S := fun w' => w'.cell? ⟨w.heap.size, 0, none⟩ = some (.int .i64 K) ∧ w'.cell? ⟨w.heap.size, 1, none⟩ = some (.int .i64 M) ∧ w'.cell? ⟨w.heap.size, 2, none⟩ = some (.int .i64 U) ∧ w'.cell? ⟨w.heap.size, 3, none⟩ = some (.int .i64 Z) ∧ w'.cell? ⟨w.heap.size, 4, none⟩ = some (.slice A0_4 l.length c0_4) ∧ Below W1.heap.size W1 w') (ds := []) #[false, false, false, false, false, false, false, false, false, false, false, false, false, false, false, false, false, false, false, false, false, false, false, false, false] (by kernel_rfl) rfl rfl (HS.out _ (below_drew (Below.refl _ _))) (fun hHeld => ?_)
     refine with_tabW impl_WideOk.tab1 impl_WideOk.bits1 (fun HT_ HW_ => ?_)
     generalize W1.drew = w9 at hHeld ⊢
     refine pure_ (i := 0) (N := some 3) (v := ?_) (a' := ?_) #[true, false, false, false, false, false, false, false, false, false, false, false, false, false, false, false, false, false, false, false, false, false, false, false, false] rfl rfl (any_of HT_.out (by kernel_rfl)) (fun _ _ _ h => h) (Or.inl ⟨by rfl, ?_⟩) ?_ ?_
     rotate_left
     ·intro w'
      go_simp
      with_reducible rfl
     rotate_left
     ·simp only [Act.put, sit, scz, scs, i64_w, i32_w]
      rfl
     refine take_ (i := 1) (N := some 4) (v := ?_) (a' := ?_) #[true, true, false, false, false, false, false, false, false, false, false, false, false, false, false, false, false, false, false, false, false, false, false, false, false] rfl rfl (take_ofW HT_.out HW_.out (by kernel_rfl)) (fun _ _ _ h => h) (Or.inl ⟨by rfl, ?_⟩) hHeld ?_ ?_
     rotate_left
     ·rintro w' ⟨s0, s1, s2, s3, s4, s5⟩
      go_simp
      with_reducible rfl
     rotate_left
     ·simp only [Act.put, sit, scz, scs, i64_w, i32_w]
      rfl
     refine one_ (i := 2) (N := some 5) #[true, true, true, false, false, false, false, false, false, false, false, false, false, false, false, false, false, false, false, false, false, false, false, false, false] rfl rfl (one_of HT_.out (by kernel_rfl)) (by decide) (fun KQ hK => ?_)
     refine goes_ Try.func72 (by kernel_rfl) rfl #[.agg #[.int .i64 K, .int .i64 M]] (by rfl) rfl rfl (by (try simp only [mta, mco, mni]); first | done | rfl) ?_
     with_reducible refine (HC.out _ hHeld.2.2.2.2.2).mono ?_
     rintro e w2 ⟨rfl, hb2⟩
     refine ⟨_, rfl, ?_⟩
     refine hK.out _ _ (HS.out _ hb2) (fun hHeld => ?_)
     clear hK KQ
     refine norm_ (a' := ?_) ?_ ?_
     rotate_left
     ·show Act.put _ (some 5) _ = _
      simp only [Act.put, sit, scz, scs, i64_w, i32_w]
      rfl
     refine pure_ (i := 3) (N := some 6) (v := ?_) (a' := ?_) #[true, true, true, true, false, false, false, false, false, false, false, false, false, false, false, false, false, false, false, false, false, false, false, false, false] rfl rfl (any_of HT_.out (by kernel_rfl)) (fun _ _ _ h => h) (Or.inl ⟨by rfl, ?_⟩) ?_ ?_
     rotate_left
     ·intro w'
      go_simp
      with_reducible rfl
     rotate_left
     ·simp only [Act.put, sit, scz, scs, i64_w, i32_w]
      rfl
     refine pure_ (i := 4) (N := some 7) (v := ?_) (a' := ?_) #[true, true, true, true, true, false, false, false, false, false, false, false, false, false, false, false, false, false, false, false, false, false, false, false, false] rfl rfl (any_of HT_.out (by kernel_rfl)) (fun _ _ _ h => h) (Or.inl ⟨by rfl, ?_⟩) ?_ ?_
     rotate_left
     ·intro w'
      go_simp
      with_reducible rfl
     rotate_left
     ·simp only [Act.put, sit, scz, scs, i64_w, i32_w]
      rfl
     refine pure_ (i := 5) (N := some 8) (v := ?_) (a' := ?_) #[true, true, true, true, true, true, false, false, false, false, false, false, false, false, false, false, false, false, false, false, false, false, false, false, false] rfl rfl (any_of HT_.out (by kernel_rfl)) (fun _ _ _ h => h) (Or.inl ⟨by rfl, ?_⟩) ?_ ?_
     rotate_left
     ·intro w'
      go_simp
      with_reducible rfl
     rotate_left
     ·simp only [Act.put, sit, scz, scs, i64_w, i32_w]
      rfl
     refine take_ (i := 6) (N := some 9) (v := ?_) (a' := ?_) #[true, true, true, true, true, true, true, false, false, false, false, false, false, false, false, false, false, false, false, false, false, false, false, false, false] rfl rfl (take_ofW HT_.out HW_.out (by kernel_rfl)) (fun _ _ _ h => h) (Or.inl ⟨by rfl, ?_⟩) hHeld ?_ ?_
     rotate_left
     ·rintro w' ⟨s0, s1, s2, s3, s4, s5⟩
      go_simp
      with_reducible rfl
     rotate_left
     ·simp only [Act.put, sit, scz, scs, i64_w, i32_w]
      rfl
     refine one_ (i := 7) (N := some 10) #[true, true, true, true, true, true, true, true, false, false, false, false, false, false, false, false, false, false, false, false, false, false, false, false, false] rfl rfl (one_of HT_.out (by kernel_rfl)) (by decide) (fun KQ hK => ?_)
     refine goes_ Try.func45 (by kernel_rfl) rfl #[.int .i64 U, .int .i64 1, .int .i64 8] (by rfl) rfl rfl (by (try simp only [mta, mco, mni]); first | done | rfl) ?_
     with_reducible refine (HT1.out _ hHeld.2.2.2.2.2).mono ?_
     rintro e w2 ⟨rfl, hb2⟩
     refine ⟨_, rfl, ?_⟩
     refine hK.out _ _ (HS.out _ hb2) (fun hHeld => ?_)
     clear hK KQ
     refine norm_ (a' := ?_) ?_ ?_
     rotate_left
     ·show Act.put _ (some 10) _ = _
      simp only [Act.put, sit, scz, scs, i64_w, i32_w]
      rfl
     refine pure_ (i := 8) (N := some 11) (v := ?_) (a' := ?_) #[true, true, true, true, true, true, true, true, true, false, false, false, false, false, false, false, false, false, false, false, false, false, false, false, false] rfl rfl (any_of HT_.out (by kernel_rfl)) (fun _ _ _ h => h) (Or.inl ⟨by rfl, ?_⟩) ?_ ?_
     rotate_left
     ·intro w'
      go_simp
      with_reducible rfl
     rotate_left
     ·simp only [Act.put, sit, scz, scs, i64_w, i32_w]
      rfl
     refine pure_ (i := 9) (N := some 12) (v := ?_) (a' := ?_) #[true, true, true, true, true, true, true, true, true, true, false, false, false, false, false, false, false, false, false, false, false, false, false, false, false] rfl rfl (any_of HT_.out (by kernel_rfl)) (fun _ _ _ h => h) (Or.inl ⟨by rfl, ?_⟩) ?_ ?_
     rotate_left
     ·intro w'
      go_simp
      with_reducible rfl
     rotate_left
     ·simp only [Act.put, sit, scz, scs, i64_w, i32_w]
      rfl
     refine pure_ (i := 10) (N := some 13) (v := ?_) (a' := ?_) #[true, true, true, true, true, true, true, true, true, true, true, false, false, false, false, false, false, false, false, false, false, false, false, false, false] rfl rfl (any_of HT_.out (by kernel_rfl)) (fun _ _ _ h => h) (Or.inl ⟨by rfl, ?_⟩) ?_ ?_
     rotate_left
     ·intro w'
      go_simp
      with_reducible rfl
     rotate_left
     ·simp only [Act.put, sit, scz, scs, i64_w, i32_w]
      rfl
     refine pure_ (i := 11) (N := some 14) (v := ?_) (a' := ?_) #[true, true, true, true, true, true, true, true, true, true, true, true, false, false, false, false, false, false, false, false, false, false, false, false, false] rfl rfl (any_of HT_.out (by kernel_rfl)) (fun _ _ _ h => h) (Or.inl ⟨by rfl, ?_⟩) ?_ ?_
     rotate_left
     ·intro w'
      go_simp
      with_reducible rfl
     rotate_left
     ·simp only [Act.put, sit, scz, scs, i64_w, i32_w]
      rfl
     refine take_ (i := 12) (N := some 15) (v := ?_) (a' := ?_) #[true, true, true, true, true, true, true, true, true, true, true, true, true, false, false, false, false, false, false, false, false, false, false, false, false] rfl rfl (take_ofW HT_.out HW_.out (by kernel_rfl)) (fun _ _ _ h => h) (Or.inl ⟨by rfl, ?_⟩) hHeld ?_ ?_
     rotate_left
     ·rintro w' ⟨s0, s1, s2, s3, s4, s5⟩
      go_simp
      with_reducible rfl
     rotate_left
     ·simp only [Act.put, sit, scz, scs, i64_w, i32_w]
      rfl
     refine one_ (i := 13) (N := some 16) #[true, true, true, true, true, true, true, true, true, true, true, true, true, true, false, false, false, false, false, false, false, false, false, false, false] rfl rfl (one_of HT_.out (by kernel_rfl)) (by decide) (fun KQ hK => ?_)
     refine goes_ Try.func45 (by kernel_rfl) rfl #[.int .i64 Z, .int .i64 0, .int .i64 256] (by rfl) rfl rfl (by (try simp only [mta, mco, mni]); first | done | rfl) ?_
     with_reducible refine (HT2.out _ hHeld.2.2.2.2.2).mono ?_
     rintro e w2 ⟨rfl, hb2⟩
     refine ⟨_, rfl, ?_⟩
     refine hK.out _ _ (HS.out _ hb2) (fun hHeld => ?_)
     clear hK KQ
     refine norm_ (a' := ?_) ?_ ?_
     rotate_left
     ·show Act.put _ (some 16) _ = _
      simp only [Act.put, sit, scz, scs, i64_w, i32_w]
      rfl
     refine pure_ (i := 14) (N := some 17) (v := ?_) (a' := ?_) #[true, true, true, true, true, true, true, true, true, true, true, true, true, true, true, false, false, false, false, false, false, false, false, false, false] rfl rfl (any_of HT_.out (by kernel_rfl)) (fun _ _ _ h => h) (Or.inl ⟨by rfl, ?_⟩) ?_ ?_
     rotate_left
     ·intro w'
      go_simp
      with_reducible rfl
     rotate_left
     ·simp only [Act.put, sit, scz, scs, i64_w, i32_w]
      rfl
     refine pure_ (i := 15) (N := some 18) (v := ?_) (a' := ?_) #[true, true, true, true, true, true, true, true, true, true, true, true, true, true, true, true, false, false, false, false, false, false, false, false, false] rfl rfl (any_of HT_.out (by kernel_rfl)) (fun _ _ _ h => h) (Or.inl ⟨by rfl, ?_⟩) ?_ ?_
     rotate_left
     ·intro w'
      go_simp
      with_reducible rfl
     rotate_left
     ·simp only [Act.put, sit, scz, scs, i64_w, i32_w]
      rfl
     refine pure_ (i := 16) (N := some 19) (v := ?_) (a' := ?_) #[true, true, true, true, true, true, true, true, true, true, true, true, true, true, true, true, true, false, false, false, false, false, false, false, false] rfl rfl (any_of HT_.out (by kernel_rfl)) (fun _ _ _ h => h) (Or.inl ⟨by rfl, ?_⟩) ?_ ?_
     rotate_left
     ·intro w'
      go_simp
      with_reducible rfl
     rotate_left
     ·simp only [Act.put, sit, scz, scs, i64_w, i32_w]
      rfl
     refine pure_ (i := 17) (N := some 20) (v := ?_) (a' := ?_) #[true, true, true, true, true, true, true, true, true, true, true, true, true, true, true, true, true, true, false, false, false, false, false, false, false] rfl rfl (any_of HT_.out (by kernel_rfl)) (fun _ _ _ h => h) (Or.inl ⟨by rfl, ?_⟩) ?_ ?_
     rotate_left
     ·intro w'
      go_simp
      with_reducible rfl
     rotate_left
     ·simp only [Act.put, sit, scz, scs, i64_w, i32_w]
      rfl
     refine take_ (i := 18) (N := some 21) (v := ?_) (a' := ?_) #[true, true, true, true, true, true, true, true, true, true, true, true, true, true, true, true, true, true, true, false, false, false, false, false, false] rfl rfl (take_ofW HT_.out HW_.out (by kernel_rfl)) (fun _ _ _ h => h) (Or.inl ⟨by rfl, ?_⟩) hHeld ?_ ?_
     rotate_left
     ·rintro w' ⟨s0, s1, s2, s3, s4, s5⟩
      go_simp
      with_reducible rfl
     rotate_left
     ·simp only [Act.put, sit, scz, scs, i64_w, i32_w]
      rfl
     refine pure_ (i := 19) (N := some 22) (v := ?_) (a' := ?_) #[true, true, true, true, true, true, true, true, true, true, true, true, true, true, true, true, true, true, true, true, false, false, false, false, false] rfl rfl (any_of HT_.out (by kernel_rfl)) (fun _ _ _ h => h) (Or.inl ⟨by rfl, ?_⟩) ?_ ?_
     rotate_left
     ·intro w'
      go_simp
      with_reducible rfl
     rotate_left
     ·simp only [Act.put, sit, scz, scs, i64_w, i32_w]
      rfl
     refine pure_ (i := 20) (N := some 23) (v := ?_) (a' := ?_) #[true, true, true, true, true, true, true, true, true, true, true, true, true, true, true, true, true, true, true, true, true, false, false, false, false] rfl rfl (any_of HT_.out (by kernel_rfl)) (fun _ _ _ h => h) (Or.inl ⟨by rfl, ?_⟩) ?_ ?_
     rotate_left
     ·intro w'
      go_simp
      with_reducible rfl
     rotate_left
     ·simp only [Act.put, sit, scz, scs, i64_w, i32_w]
      rfl
     refine take_ (i := 21) (N := some 24) (v := ?_) (a' := ?_) #[true, true, true, true, true, true, true, true, true, true, true, true, true, true, true, true, true, true, true, true, true, true, false, false, false] rfl rfl (take_ofW HT_.out HW_.out (by kernel_rfl)) (fun _ _ _ h => h) (Or.inl ⟨by rfl, ?_⟩) hHeld ?_ ?_
     rotate_left
     ·rintro w' ⟨s0, s1, s2, s3, s4, s5⟩
      go_simp
      with_reducible rfl
     rotate_left
     ·simp only [Act.put, sit, scz, scs, i64_w, i32_w]
      rfl
     refine one_ (i := 22) (N := some 25) #[true, true, true, true, true, true, true, true, true, true, true, true, true, true, true, true, true, true, true, true, true, true, true, false, false] rfl rfl (one_of HT_.out (by kernel_rfl)) (by decide) (fun KQ hK => ?_)
     refine goes_ Try.func73 (by kernel_rfl) rfl #[.agg #[.int .i64 K, .int .i64 M]] (by rfl) rfl rfl (by (try simp only [mta, mco, mni]); first | done | rfl) ?_
     with_reducible refine (HZ.out _ hHeld.2.2.2.2.2).mono ?_
     rintro e w2 ⟨rfl, hb2⟩
     refine ⟨_, rfl, ?_⟩
     refine hK.out _ _ (HS.out _ hb2) (fun hHeld => ?_)
     clear hK KQ
     refine norm_ (a' := ?_) ?_ ?_
     rotate_left
     ·show Act.put _ (some 25) _ = _
      simp only [Act.put, sit, scz, scs, i64_w, i32_w]
      rfl
     refine pure_ (i := 23) (N := some 26) (v := ?_) (a' := ?_) #[true, true, true, true, true, true, true, true, true, true, true, true, true, true, true, true, true, true, true, true, true, true, true, true, false] rfl rfl (any_of HT_.out (by kernel_rfl)) (fun _ _ _ h => h) (Or.inl ⟨by rfl, ?_⟩) ?_ ?_
     rotate_left
     ·intro w'
      go_simp
      with_reducible rfl
     rotate_left
     ·simp only [Act.put, sit, scz, scs, i64_w, i32_w]
      rfl
     refine pure_ (i := 24) (N := some 27) (v := ?_) (a' := ?_) #[true, true, true, true, true, true, true, true, true, true, true, true, true, true, true, true, true, true, true, true, true, true, true, true, true] rfl rfl (any_of HT_.out (by kernel_rfl)) (fun _ _ _ h => h) (Or.inl ⟨by rfl, ?_⟩) ?_ ?_
     rotate_left
     ·intro w'
      go_simp
      with_reducible rfl
     rotate_left
     ·simp only [Act.put, sit, scz, scs, i64_w, i32_w]
      rfl
     refine done_ (done_of HT_.out (by kernel_rfl)) ?_
     obtain ⟨z0, z1, z2, z3, z4, hz⟩ := hHeld
     go_wp2_with (go_at_call 74; refine (HJ.out _ hz).mono ?_; rintro e w2 ⟨rfl, hb2⟩)
     go_ret
     exact ⟨by rw [← HE.out, h4a]; simp, HB.out.trans (hb2.mono HB.out.size)⟩
    ·have h4a : ((l.length : Int) == sz) = false := beq_eq_false_iff_ne.mpr h4
     have h4b : ((l.length : Int) != sz) = true := bne_iff_ne.mpr h4
     clear h4
     go_enter Try.func39, Try.ntmps39
     go_wp2
     rw [← HW1.out]
     refine start_ (n := 25) (S := fun w' => w'.cell? ⟨w.heap.size, 0, none⟩ = some (.int .i64 K) ∧ w'.cell? ⟨w.heap.size, 1, none⟩ = some (.int .i64 M) ∧ w'.cell? ⟨w.heap.size, 2, none⟩ = some (.int .i64 U) ∧ w'.cell? ⟨w.heap.size, 3, none⟩ = some (.int .i64 Z) ∧ w'.cell? ⟨w.heap.size, 4, none⟩ = some (.slice A0_4 l.length c0_4) ∧ Below W1.heap.size W1 w') (ds := []) #[false, false, false, false, false, false, false, false, false, false, false, false, false, false, false, false, false, false, false, false, false, false, false, false, false] (by kernel_rfl) rfl rfl (HS.out _ (below_drew (Below.refl _ _))) (fun hHeld => ?_)
     refine with_tabW impl_WideOk.tab1 impl_WideOk.bits1 (fun HT_ HW_ => ?_)
     generalize W1.drew = w9 at hHeld ⊢
     refine pure_ (i := 0) (N := some 3) (v := ?_) (a' := ?_) #[true, false, false, false, false, false, false, false, false, false, false, false, false, false, false, false, false, false, false, false, false, false, false, false, false] rfl rfl (any_of HT_.out (by kernel_rfl)) (fun _ _ _ h => h) (Or.inl ⟨by rfl, ?_⟩) ?_ ?_
     rotate_left
     ·intro w'
      go_simp
      with_reducible rfl
     rotate_left
     ·simp only [Act.put, sit, scz, scs, i64_w, i32_w]
      rfl
     refine take_ (i := 1) (N := some 4) (v := ?_) (a' := ?_) #[true, true, false, false, false, false, false, false, false, false, false, false, false, false, false, false, false, false, false, false, false, false, false, false, false] rfl rfl (take_ofW HT_.out HW_.out (by kernel_rfl)) (fun _ _ _ h => h) (Or.inl ⟨by rfl, ?_⟩) hHeld ?_ ?_
     rotate_left
     ·rintro w' ⟨s0, s1, s2, s3, s4, s5⟩
      go_simp
      with_reducible rfl
     rotate_left
     ·simp only [Act.put, sit, scz, scs, i64_w, i32_w]
      rfl
     refine one_ (i := 2) (N := some 5) #[true, true, true, false, false, false, false, false, false, false, false, false, false, false, false, false, false, false, false, false, false, false, false, false, false] rfl rfl (one_of HT_.out (by kernel_rfl)) (by decide) (fun KQ hK => ?_)
     refine goes_ Try.func72 (by kernel_rfl) rfl #[.agg #[.int .i64 K, .int .i64 M]] (by rfl) rfl rfl (by (try simp only [mta, mco, mni]); first | done | rfl) ?_
     with_reducible refine (HC.out _ hHeld.2.2.2.2.2).mono ?_
     rintro e w2 ⟨rfl, hb2⟩
     refine ⟨_, rfl, ?_⟩
     refine hK.out _ _ (HS.out _ hb2) (fun hHeld => ?_)
     clear hK KQ
     refine norm_ (a' := ?_) ?_ ?_
     rotate_left
     ·show Act.put _ (some 5) _ = _
      simp only [Act.put, sit, scz, scs, i64_w, i32_w]
      rfl
     refine pure_ (i := 3) (N := some 6) (v := ?_) (a' := ?_) #[true, true, true, true, false, false, false, false, false, false, false, false, false, false, false, false, false, false, false, false, false, false, false, false, false] rfl rfl (any_of HT_.out (by kernel_rfl)) (fun _ _ _ h => h) (Or.inl ⟨by rfl, ?_⟩) ?_ ?_
     rotate_left
     ·intro w'
      go_simp
      with_reducible rfl
     rotate_left
     ·simp only [Act.put, sit, scz, scs, i64_w, i32_w]
      rfl
     refine pure_ (i := 4) (N := some 7) (v := ?_) (a' := ?_) #[true, true, true, true, true, false, false, false, false, false, false, false, false, false, false, false, false, false, false, false, false, false, false, false, false] rfl rfl (any_of HT_.out (by kernel_rfl)) (fun _ _ _ h => h) (Or.inl ⟨by rfl, ?_⟩) ?_ ?_
     rotate_left
     ·intro w'
      go_simp
      with_reducible rfl
     rotate_left
     ·simp only [Act.put, sit, scz, scs, i64_w, i32_w]
      rfl
     refine pure_ (i := 5) (N := some 8) (v := ?_) (a' := ?_) #[true, true, true, true, true, true, false, false, false, false, false, false, false, false, false, false, false, false, false, false, false, false, false, false, false] rfl rfl (any_of HT_.out (by kernel_rfl)) (fun _ _ _ h => h) (Or.inl ⟨by rfl, ?_⟩) ?_ ?_
     rotate_left
     ·intro w'
      go_simp
      with_reducible rfl
     rotate_left
     ·simp only [Act.put, sit, scz, scs, i64_w, i32_w]
      rfl
     refine take_ (i := 6) (N := some 9) (v := ?_) (a' := ?_) #[true, true, true, true, true, true, true, false, false, false, false, false, false, false, false, false, false, false, false, false, false, false, false, false, false] rfl rfl (take_ofW HT_.out HW_.out (by kernel_rfl)) (fun _ _ _ h => h) (Or.inl ⟨by rfl, ?_⟩) hHeld ?_ ?_
     rotate_left
     ·rintro w' ⟨s0, s1, s2, s3, s4, s5⟩
      go_simp
      with_reducible rfl
     rotate_left
     ·simp only [Act.put, sit, scz, scs, i64_w, i32_w]
      rfl
     refine one_ (i := 7) (N := some 10) #[true, true, true, true, true, true, true, true, false, false, false, false, false, false, false, false, false, false, false, false, false, false, false, false, false] rfl rfl (one_of HT_.out (by kernel_rfl)) (by decide) (fun KQ hK => ?_)
     refine goes_ Try.func45 (by kernel_rfl) rfl #[.int .i64 U, .int .i64 1, .int .i64 8] (by rfl) rfl rfl (by (try simp only [mta, mco, mni]); first | done | rfl) ?_
     with_reducible refine (HT1.out _ hHeld.2.2.2.2.2).mono ?_
     rintro e w2 ⟨rfl, hb2⟩
     refine ⟨_, rfl, ?_⟩
     refine hK.out _ _ (HS.out _ hb2) (fun hHeld => ?_)
     clear hK KQ
     refine norm_ (a' := ?_) ?_ ?_
     rotate_left
     ·show Act.put _ (some 10) _ = _
      simp only [Act.put, sit, scz, scs, i64_w, i32_w]
      rfl
     refine pure_ (i := 8) (N := some 11) (v := ?_) (a' := ?_) #[true, true, true, true, true, true, true, true, true, false, false, false, false, false, false, false, false, false, false, false, false, false, false, false, false] rfl rfl (any_of HT_.out (by kernel_rfl)) (fun _ _ _ h => h) (Or.inl ⟨by rfl, ?_⟩) ?_ ?_
     rotate_left
     ·intro w'
      go_simp
      with_reducible rfl
     rotate_left
     ·simp only [Act.put, sit, scz, scs, i64_w, i32_w]
      rfl
     refine pure_ (i := 9) (N := some 12) (v := ?_) (a' := ?_) #[true, true, true, true, true, true, true, true, true, true, false, false, false, false, false, false, false, false, false, false, false, false, false, false, false] rfl rfl (any_of HT_.out (by kernel_rfl)) (fun _ _ _ h => h) (Or.inl ⟨by rfl, ?_⟩) ?_ ?_
     rotate_left
     ·intro w'
      go_simp
      with_reducible rfl
     rotate_left
     ·simp only [Act.put, sit, scz, scs, i64_w, i32_w]
      rfl
     refine pure_ (i := 10) (N := some 13) (v := ?_) (a' := ?_) #[true, true, true, true, true, true, true, true, true, true, true, false, false, false, false, false, false, false, false, false, false, false, false, false, false] rfl rfl (any_of HT_.out (by kernel_rfl)) (fun _ _ _ h => h) (Or.inl ⟨by rfl, ?_⟩) ?_ ?_
     rotate_left
     ·intro w'
      go_simp
      with_reducible rfl
     rotate_left
     ·simp only [Act.put, sit, scz, scs, i64_w, i32_w]
      rfl
     refine pure_ (i := 11) (N := some 14) (v := ?_) (a' := ?_) #[true, true, true, true, true, true, true, true, true, true, true, true, false, false, false, false, false, false, false, false, false, false, false, false, false] rfl rfl (any_of HT_.out (by kernel_rfl)) (fun _ _ _ h => h) (Or.inl ⟨by rfl, ?_⟩) ?_ ?_
     rotate_left
     ·intro w'
      go_simp
      with_reducible rfl
     rotate_left
     ·simp only [Act.put, sit, scz, scs, i64_w, i32_w]
      rfl
     refine take_ (i := 12) (N := some 15) (v := ?_) (a' := ?_) #[true, true, true, true, true, true, true, true, true, true, true, true, true, false, false, false, false, false, false, false, false, false, false, false, false] rfl rfl (take_ofW HT_.out HW_.out (by kernel_rfl)) (fun _ _ _ h => h) (Or.inl ⟨by rfl, ?_⟩) hHeld ?_ ?_
     rotate_left
     ·rintro w' ⟨s0, s1, s2, s3, s4, s5⟩
      go_simp
      with_reducible rfl
     rotate_left
     ·simp only [Act.put, sit, scz, scs, i64_w, i32_w]
      rfl
     refine one_ (i := 13) (N := some 16) #[true, true, true, true, true, true, true, true, true, true, true, true, true, true, false, false, false, false, false, false, false, false, false, false, false] rfl rfl (one_of HT_.out (by kernel_rfl)) (by decide) (fun KQ hK => ?_)
     refine goes_ Try.func45 (by kernel_rfl) rfl #[.int .i64 Z, .int .i64 0, .int .i64 256] (by rfl) rfl rfl (by (try simp only [mta, mco, mni]); first | done | rfl) ?_
     with_reducible refine (HT2.out _ hHeld.2.2.2.2.2).mono ?_
     rintro e w2 ⟨rfl, hb2⟩
     refine ⟨_, rfl, ?_⟩
     refine hK.out _ _ (HS.out _ hb2) (fun hHeld => ?_)
     clear hK KQ
     refine norm_ (a' := ?_) ?_ ?_
     rotate_left
     ·show Act.put _ (some 16) _ = _
      simp only [Act.put, sit, scz, scs, i64_w, i32_w]
      rfl
     refine pure_ (i := 14) (N := some 17) (v := ?_) (a' := ?_) #[true, true, true, true, true, true, true, true, true, true, true, true, true, true, true, false, false, false, false, false, false, false, false, false, false] rfl rfl (any_of HT_.out (by kernel_rfl)) (fun _ _ _ h => h) (Or.inl ⟨by rfl, ?_⟩) ?_ ?_
     rotate_left
     ·intro w'
      go_simp
      with_reducible rfl
     rotate_left
     ·simp only [Act.put, sit, scz, scs, i64_w, i32_w]
      rfl
     refine pure_ (i := 15) (N := some 18) (v := ?_) (a' := ?_) #[true, true, true, true, true, true, true, true, true, true, true, true, true, true, true, true, false, false, false, false, false, false, false, false, false] rfl rfl (any_of HT_.out (by kernel_rfl)) (fun _ _ _ h => h) (Or.inl ⟨by rfl, ?_⟩) ?_ ?_
     rotate_left
     ·intro w'
      go_simp
      with_reducible rfl
     rotate_left
     ·simp only [Act.put, sit, scz, scs, i64_w, i32_w]
      rfl
     refine pure_ (i := 16) (N := some 19) (v := ?_) (a' := ?_) #[true, true, true, true, true, true, true, true, true, true, true, true, true, true, true, true, true, false, false, false, false, false, false, false, false] rfl rfl (any_of HT_.out (by kernel_rfl)) (fun _ _ _ h => h) (Or.inl ⟨by rfl, ?_⟩) ?_ ?_
     rotate_left
     ·intro w'
      go_simp
      with_reducible rfl
     rotate_left
     ·simp only [Act.put, sit, scz, scs, i64_w, i32_w]
      rfl
     refine pure_ (i := 17) (N := some 20) (v := ?_) (a' := ?_) #[true, true, true, true, true, true, true, true, true, true, true, true, true, true, true, true, true, true, false, false, false, false, false, false, false] rfl rfl (any_of HT_.out (by kernel_rfl)) (fun _ _ _ h => h) (Or.inl ⟨by rfl, ?_⟩) ?_ ?_
     rotate_left
     ·intro w'
      go_simp
      with_reducible rfl
     rotate_left
     ·simp only [Act.put, sit, scz, scs, i64_w, i32_w]
      rfl
     refine take_ (i := 18) (N := some 21) (v := ?_) (a' := ?_) #[true, true, true, true, true, true, true, true, true, true, true, true, true, true, true, true, true, true, true, false, false, false, false, false, false] rfl rfl (take_ofW HT_.out HW_.out (by kernel_rfl)) (fun _ _ _ h => h) (Or.inl ⟨by rfl, ?_⟩) hHeld ?_ ?_
     rotate_left
     ·rintro w' ⟨s0, s1, s2, s3, s4, s5⟩
      go_simp
      with_reducible rfl
     rotate_left
     ·simp only [Act.put, sit, scz, scs, i64_w, i32_w]
      rfl
     refine pure_ (i := 19) (N := some 22) (v := ?_) (a' := ?_) #[true, true, true, true, true, true, true, true, true, true, true, true, true, true, true, true, true, true, true, true, false, false, false, false, false] rfl rfl (any_of HT_.out (by kernel_rfl)) (fun _ _ _ h => h) (Or.inl ⟨by rfl, ?_⟩) ?_ ?_
     rotate_left
     ·intro w'
      go_simp
      with_reducible rfl
     rotate_left
     ·simp only [Act.put, sit, scz, scs, i64_w, i32_w]
      rfl
     refine pure_ (i := 20) (N := some 23) (v := ?_) (a' := ?_) #[true, true, true, true, true, true, true, true, true, true, true, true, true, true, true, true, true, true, true, true, true, false, false, false, false] rfl rfl (any_of HT_.out (by kernel_rfl)) (fun _ _ _ h => h) (Or.inl ⟨by rfl, ?_⟩) ?_ ?_
     rotate_left
     ·intro w'
      go_simp
      with_reducible rfl
     rotate_left
     ·simp only [Act.put, sit, scz, scs, i64_w, i32_w]
      rfl
     refine take_ (i := 21) (N := some 24) (v := ?_) (a' := ?_) #[true, true, true, true, true, true, true, true, true, true, true, true, true, true, true, true, true, true, true, true, true, true, false, false, false] rfl rfl (take_ofW HT_.out HW_.out (by kernel_rfl)) (fun _ _ _ h => h) (Or.inl ⟨by rfl, ?_⟩) hHeld ?_ ?_
     rotate_left
     ·rintro w' ⟨s0, s1, s2, s3, s4, s5⟩
      go_simp
      with_reducible rfl
     rotate_left
     ·simp only [Act.put, sit, scz, scs, i64_w, i32_w]
      rfl
     refine one_ (i := 22) (N := some 25) #[true, true, true, true, true, true, true, true, true, true, true, true, true, true, true, true, true, true, true, true, true, true, true, false, false] rfl rfl (one_of HT_.out (by kernel_rfl)) (by decide) (fun KQ hK => ?_)
     refine goes_ Try.func73 (by kernel_rfl) rfl #[.agg #[.int .i64 K, .int .i64 M]] (by rfl) rfl rfl (by (try simp only [mta, mco, mni]); first | done | rfl) ?_
     with_reducible refine (HZ.out _ hHeld.2.2.2.2.2).mono ?_
     rintro e w2 ⟨rfl, hb2⟩
     refine ⟨_, rfl, ?_⟩
     refine hK.out _ _ (HS.out _ hb2) (fun hHeld => ?_)
     clear hK KQ
     refine norm_ (a' := ?_) ?_ ?_
     rotate_left
     ·show Act.put _ (some 25) _ = _
      simp only [Act.put, sit, scz, scs, i64_w, i32_w]
      rfl
     refine pure_ (i := 23) (N := some 26) (v := ?_) (a' := ?_) #[true, true, true, true, true, true, true, true, true, true, true, true, true, true, true, true, true, true, true, true, true, true, true, true, false] rfl rfl (any_of HT_.out (by kernel_rfl)) (fun _ _ _ h => h) (Or.inl ⟨by rfl, ?_⟩) ?_ ?_
     rotate_left
     ·intro w'
      go_simp
      with_reducible rfl
     rotate_left
     ·simp only [Act.put, sit, scz, scs, i64_w, i32_w]
      rfl
     refine pure_ (i := 24) (N := some 27) (v := ?_) (a' := ?_) #[true, true, true, true, true, true, true, true, true, true, true, true, true, true, true, true, true, true, true, true, true, true, true, true, true] rfl rfl (any_of HT_.out (by kernel_rfl)) (fun _ _ _ h => h) (Or.inl ⟨by rfl, ?_⟩) ?_ ?_
     rotate_left
     ·intro w'
      go_simp
      with_reducible rfl
     rotate_left
     ·simp only [Act.put, sit, scz, scs, i64_w, i32_w]
      rfl
     refine done_ (done_of HT_.out (by kernel_rfl)) ?_
     go_wp2
     go_ret
     exact ⟨by rw [← HE.out]; simp [h4a], HB.out.trans (hHeld.2.2.2.2.2.mono HB.out.size)⟩

end Go.Proofs.Ytmpakjgbbjkacaa.MFnExactWideBody
