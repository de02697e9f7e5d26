/- The program's GetOp and the reference's read one operation out of every string. No condition. -/
import Derived.Test.YthphhklbliambaaStmtFnExactGetOp
import Derived.Lib.Strings
set_option linter.unusedSimpArgs false
set_option linter.unusedVariables false
namespace Go.Proofs.Ythphhklbliambaa.Pure
open Go.RowKit Go.Proofs.Ythphhklbliambaa.MFnExactGetOp Go.Proofs.YthphhklbliambaaW.PrintWords Go.Proofs.YthphhklbliambaaW.PrintLast
theorem evc {α : Type} {g : Nat → Option α} {r : α} (h : ∀ k, g k = some r) : Ev g r := ⟨0, fun k _ => h k⟩
theorem evsucc {α : Type} {g : Nat → Option α} {r : α} (h : Ev (fun k => g (k + 1)) r) : Ev g r := by
  obtain ⟨K, hK⟩ := h
  refine ⟨K + 1, fun k hk => ?_⟩
  obtain ⟨k, rfl⟩ : ∃ m, k = m + 1 := ⟨k - 1, by omega⟩
  exact hK k (by omega)
theorem evp {α : Type} {c : Prop} [Decidable c] {g f : Nat → Option α} {r : α} (hc : c) (h : Ev g r) : Ev (fun k => if c then g k else f k) r := by
  simp only [if_pos hc]; exact h
theorem evn {α : Type} {c : Prop} [Decidable c] {g f : Nat → Option α} {r : α} (hc : ¬ c) (h : Ev f r) : Ev (fun k => if c then g k else f k) r := by
  simp only [if_neg hc]; exact h
theorem evb {α β : Type} {g : Nat → Option α} {f : Nat → α → Option β} {a : α} {r : β} (h : Ev g a) (k : Ev (fun n => f n a) r) : Ev (fun n => (g n).bind (f n)) r := Ev.bind h k
theorem evk {α β : Type} {g : Option α} {f : Nat → α → Option β} {a : α} {r : β} (h : g = some a) (k : Ev (fun n => f n a) r) : Ev (fun n => g.bind (f n)) r := by subst h; exact k
theorem ev_ex {α : Type} {g : Nat → Option α} {r : α} (h : Ev g r) : ∃ k, g k = some r := by obtain ⟨K, hK⟩ := h; exact ⟨K, hK K (Nat.le_refl _)⟩
theorem wsucc {i n : Nat} (h : i < n) (hn : n ≤ 140737488351232) : wrap64 ((i : Int) + 1) = ((i + 1 : Nat) : Int) := by unfold wrap64; omega
theorem rd_at {l : List Int} {i : Nat} (h : i < l.length) : rd l (i : Int) = l[i] := by
  simp [rd, List.getD_eq_getElem?_getD, List.getElem?_eq_getElem h]
theorem drop_at {α : Type} {l : List α} {i : Nat} (h : i < l.length) : l.drop i = l[i] :: l.drop (i + 1) := List.drop_eq_getElem_cons h
theorem take_at {α : Type} {l : List α} {i : Nat} (h : i < l.length) : l.take (i + 1) = l.take i ++ [l[i]] := by
  rw [List.take_succ_eq_append_getElem h]
theorem between_eq (a b c : Int) : impl_between.f a b c = some (decide (b ≤ a ∧ a ≤ c)) := by
  unfold impl_between.f
  by_cases h : a ≥ b
  · have h' : b ≤ a := h
    simp [h, h']
  · have h' : ¬ b ≤ a := h
    simp [h, h']
theorem l00In_eq (a b c : Int) : spec_l00In.f a b c = some (decide (b ≤ a ∧ a ≤ c)) := by
  unfold spec_l00In.f
  by_cases h : a ≥ b
  · have h' : b ≤ a := h
    simp [h, h']
  · have h' : ¬ b ≤ a := h
    simp [h, h']
def codeB (a b : Int) : Bool := decide (1 ≤ a ∧ a ≤ 4) && decide (0 ≤ b ∧ b ≤ 3)
theorem codeOk_impl (a b : Int) : impl_CodeOk.f a b = some (codeB a b) := by
  unfold impl_CodeOk.f codeB
  simp only [between_eq, Option.bind_some]
  by_cases h : 1 ≤ a ∧ a ≤ 4 <;> simp [h]
theorem codeOk_spec (a b : Int) : spec_CodeOk.f a b = some (codeB a b) := by
  unfold spec_CodeOk.f spec_l04Code.f codeB
  simp only [l00In_eq, Option.bind_some]
  by_cases h : 1 ≤ a ∧ a ≤ 4 <;> simp [h]
theorem opOk_same (k : Nat) (a b x y : Int) (s : ByteArray) : ∃ v, spec_OpOk.f (k + 1) a b x y s = some v ∧ impl_OpOk.f (k + 1) a b x y s = some v := by
  unfold spec_OpOk.f impl_OpOk.f
  simp only [codeOk_impl, codeOk_spec, l00In_eq, Option.bind_some, spec_OpOk.j0, impl_OpOk.j0, between_eq]
  cases codeB a b with
  | false => exact ⟨false, by simp⟩
  | true =>
    simp only [if_true]
    by_cases h1 : x = 1
    · subst h1; by_cases hy : y = 0 <;> simp [hy]
    · by_cases h6 : x = 6
      · subst h6; by_cases hy : y = 0 <;> simp [hy]
      · have e1 : (x == 1) = false := by simp [h1]
        have e6 : (x == 6) = false := by simp [h6]
        simp only [if_neg h1, e6, Bool.false_eq_true, if_false]
        by_cases h2 : x = 2
        · subst h2; by_cases hy : y = 0 <;> simp [hy]
        · by_cases h3 : x = 3
          · subst h3; by_cases ha : a = 1 <;> by_cases hr : 0 ≤ y ∧ y ≤ 64 <;> simp [ha, hr]
          · by_cases h4 : x = 4
            · subst h4; by_cases ha : a = 1 <;> by_cases hy : y = 0 <;> simp [ha, hy]
            · by_cases h5 : x = 5
              · subst h5; by_cases ha : a = 1 <;> by_cases hr : 0 ≤ y ∧ y ≤ 64 <;> simp [ha, hr]
              · simp [h2, h3, h4, h5]
theorem empty_size {s : ByteArray} (h : (s.toList == ([] : List UInt8)) = true) : s.size ≤ 64 := by
  have h1 : s.toList = [] := by simpa using h
  have h2 : s.size = 0 := by
    rw [Lib.toList_data] at h1
    have := congrArg List.length h1
    simpa using this
  omega
theorem opOk_bounds (k : Nat) (a b x y : Int) (s : ByteArray) (h : impl_OpOk.f (k + 1) a b x y s = some true) : 1 ≤ x ∧ x ≤ 6 ∧ 0 ≤ y ∧ y ≤ 64 ∧ s.size ≤ 64 := by
  unfold impl_OpOk.f at h
  simp only [codeOk_impl, Option.bind_some, impl_OpOk.j0, between_eq] at h
  cases hc : codeB a b with
  | false => rw [hc] at h; simp at h
  | true =>
    rw [hc] at h
    simp only [if_true] at h
    by_cases h1 : x = 1
    · subst h1
      by_cases hy : y = 0
      · subst hy
        simp only [if_true, beq_self_eq_true, Option.some.injEq] at h
        have := empty_size h
        omega
      · simp [hy] at h
    · by_cases h6 : x = 6
      · subst h6
        by_cases hy : y = 0
        · subst hy
          simp only [if_true, beq_self_eq_true, Option.some.injEq, if_neg h1] at h
          have := empty_size h
          omega
        · simp [hy] at h
      · have e6 : (x == 6) = false := by simp [h6]
        simp only [if_neg h1, e6, Bool.false_eq_true, if_false] at h
        by_cases h2 : x = 2
        · subst h2
          by_cases hy : y = 0
          · simp [hy] at h; omega
          · simp [hy] at h
        · by_cases h3 : x = 3
          · subst h3
            by_cases ha : a = 1 <;> by_cases hr : 0 ≤ y ∧ y ≤ 64 <;> simp [ha, hr] at h
            omega
          · by_cases h4 : x = 4
            · subst h4
              by_cases ha : a = 1 <;> by_cases hy : y = 0 <;> simp [ha, hy] at h
              omega
            · by_cases h5 : x = 5
              · subst h5
                by_cases ha : a = 1
                · by_cases hr : 0 ≤ y ∧ y ≤ 64
                  · simp only [ha, if_true, Option.some.injEq, if_neg h2, if_neg h3, if_neg h4, decide_eq_true hr] at h
                    have := empty_size h
                    omega
                  · simp [ha, hr] at h
                · simp [ha] at h
              · simp [h2, h3, h4, h5] at h
theorem opOk_ex (x y : Int) (s : ByteArray) : ∃ v : Bool, (∀ k, spec_OpOk.f (k + 1) 1 0 x y s = some v) ∧ (∀ k, impl_OpOk.f (k + 1) 1 0 x y s = some v) ∧ (v = true → 1 ≤ x ∧ x ≤ 6 ∧ 0 ≤ y ∧ y ≤ 64 ∧ s.size ≤ 64) := by
  obtain ⟨v, h1, h2⟩ := opOk_same 0 1 0 x y s
  refine ⟨v, fun k => ?_, fun k => ?_, fun hv => opOk_bounds 0 1 0 x y s (by rw [h2, hv])⟩
  · rw [← h1]; unfold spec_OpOk.f; simp only [spec_OpOk.j0]
  · rw [← h2]; unfold impl_OpOk.f; simp only [impl_OpOk.j0]
theorem w64n (x : Nat) (h : x < 9223372036854775808) : wrap64 (x : Int) = (x : Int) := by unfold wrap64; omega
theorem or_i64 (a b : Nat) (ha : a < 9223372036854775808) (hb : b < 9223372036854775808) : Go.bits .or .i64 (a : Int) (b : Int) = ((a ||| b : Nat) : Int) := by
  have hx : a ||| b < 2 ^ 63 := Nat.or_lt_two_pow (by omega) (by omega)
  have h1 : (BitVec.ofInt 64 (a : Int)).toNat = a := by
    rw [BitVec.ofInt_natCast, BitVec.toNat_ofNat]; exact Nat.mod_eq_of_lt (by omega)
  have h2 : (BitVec.ofInt 64 (b : Int)).toNat = b := by
    rw [BitVec.ofInt_natCast, BitVec.toNat_ofNat]; exact Nat.mod_eq_of_lt (by omega)
  show Go.IntKind.i64.wrap ((BitVec.ofInt 64 (a : Int) ||| BitVec.ofInt 64 (b : Int)).toNat : Int) = _
  rw [BitVec.toNat_or, h1, h2, i64_w]
  exact w64n _ (by omega)
theorem or_low (n m e : Nat) (hn : n < 2 ^ e) (hm : m ≤ 127) (he : e ≤ 56) : Go.bits .or .i64 (n : Int) (shl .i64 (m : Int) (e : Int)) = ((n + m * 2 ^ e : Nat) : Int) := by
  have hp : 2 ^ e ≤ 2 ^ 56 := Nat.pow_le_pow_right (by omega) he
  have hq : m * 2 ^ e ≤ 127 * 2 ^ 56 := Nat.mul_le_mul hm hp
  have hs : shl .i64 (m : Int) (e : Int) = ((m * 2 ^ e : Nat) : Int) := by
    show Go.IntKind.i64.wrap ((m : Int) * 2 ^ min ((e : Int).toNat) 64) = _
    rw [i64_w, Int.toNat_natCast, Nat.min_eq_left (by omega), show (m : Int) * 2 ^ e = ((m * 2 ^ e : Nat) : Int) from by rw [Int.natCast_mul, Int.natCast_pow]; rfl]
    exact w64n _ (by omega)
  rw [hs, or_i64 _ _ (by omega) (by omega), Nat.or_comm, Nat.mul_comm m, ← Nat.two_pow_add_eq_or_of_lt hn m, Nat.add_comm]
/-- What the reading of a number may answer, of so many bytes. -/
def GoodV (s : ByteArray) (r : Int × Int × Bool) : Prop := 0 ≤ r.1 ∧ r.1 ≤ 4611686018427387904 ∧ 0 ≤ r.2.1 ∧ r.2.1 ≤ (s.size : Int) ∧ (r.2.2 = false → r.1 = 0 ∧ r.2.1 = 0)
theorem good_no (s : ByteArray) : GoodV s (0, 0, false) := ⟨by simp, by simp, by simp, by simp, fun _ => ⟨rfl, rfl⟩⟩
theorem w64_8 : wrap64 (0 + 8) = 8 := by unfold wrap64; omega
theorem w64_9 : wrap64 (0 + 9) = 9 := by unfold wrap64; omega
theorem w64_mul (T T' : Nat) (e : T' = T * 128) (h : T ≤ 562949953421312) : wrap64 ((T : Int) * 128) = (T' : Int) := by subst e; unfold wrap64; omega
theorem gv_lt (n q T T' : Nat) (hn : n < T) (hq : q ≤ 127 * T) (e : T' = T * 128) : n + q < T' := by omega
theorem gv_big (n q T : Nat) (hT : T = 72057594037927936) (h : 65 * T ≤ q) : n + q > 4611686018427387904 := by omega
theorem gv_fit (n q T : Nat) (hT : T ≤ 72057594037927936) (hn : n < T) (hq : q ≤ 127 * T) : q < 9223372036854775808 ∧ n + q < 9223372036854775808 := by omega
theorem getvar_step (s : ByteArray) (hs : s.size ≤ 2000000) (i n T T' : Nat) (hT56 : T ≤ 72057594037927936) (hTT : i < 8 → T' = T * 128) (hT49 : i < 8 → T ≤ 562949953421312) (h8T : i = 8 → T = 72057594037927936) (hi : i ≤ 8) (hn : n < T)
    (hbits : ∀ m : Nat, m ≤ 127 → Go.bits .or .i64 (n : Int) (shl .i64 (m : Int) ((7 * i : Nat) : Int)) = ((n + m * T : Nat) : Int))
    (next : i < 8 → ∀ n' : Nat, n' < T' → ∃ r : Int × Int × Bool, Ev (fun k => spec_l01Get.l0 k s 0 (n' : Int) (T' : Int) ((i + 1 : Nat) : Int)) r ∧ Ev (fun k => impl_GetVar.l0 k s (n' : Int) ((i + 1 : Nat) : Int)) r ∧ GoodV s r) :
    ∃ r : Int × Int × Bool, Ev (fun k => spec_l01Get.l0 k s 0 (n : Int) (T : Int) (i : Int)) r ∧ Ev (fun k => impl_GetVar.l0 k s (n : Int) (i : Int)) r ∧ GoodV s r := by
  by_cases hl : i < s.size
  · obtain ⟨c, hc, hc2⟩ : ∃ c : Nat, bt s (i : Int) = (c : Int) ∧ c ≤ 255 := by
      have := bt_range s (i : Int)
      exact ⟨(bt s (i : Int)).toNat, by omega, by omega⟩
    have w1 : wrap64 (bt s (i : Int)) = (c : Int) := by rw [hc]; exact w64n _ (by omega)
    have w2 : wrap64 (7 * (i : Int)) = ((7 * i : Nat) : Int) := by rw [show 7 * (i : Int) = ((7 * i : Nat) : Int) from by omega]; exact w64n _ (by omega)
    have w3 : Int.tmod (c : Int) 128 = ((c % 128 : Nat) : Int) := by rw [Int.tmod_eq_emod_of_nonneg (by omega)]; omega
    have hm : c % 128 ≤ 127 := by omega
    have hq : c % 128 * T ≤ 127 * T := Nat.mul_le_mul_right _ hm
    have w4 := hbits (c % 128) hm
    have w5 : wrap64 ((n : Int) + wrap64 (((c % 128 : Nat) : Int) * (T : Int))) = ((n + c % 128 * T : Nat) : Int) := by
      rw [show ((c % 128 : Nat) : Int) * (T : Int) = ((c % 128 * T : Nat) : Int) from (Int.natCast_mul _ _).symm, w64n _ (gv_fit n _ T hT56 hn hq).1, show (n : Int) + ((c % 128 * T : Nat) : Int) = ((n + c % 128 * T : Nat) : Int) from (Int.natCast_add _ _).symm]
      exact w64n _ (gv_fit n _ T hT56 hn hq).2
    have w6 : wrap64 ((i : Int) + 1) = ((i + 1 : Nat) : Int) := w64n (i + 1) (by omega)
    have w7 := w64_8
    have w9 := w64_9
    have w8 : i < 8 → wrap64 ((T : Int) * 128) = (T' : Int) := fun h => w64_mul T T' (hTT h) (hT49 h)
    have hv : i < 8 → n + c % 128 * T < T' := fun h => gv_lt n _ T T' hn hq (hTT h)
    have hv8 : i = 8 → 64 < c → c < 128 → n + c % 128 * T > 4611686018427387904 := fun h h1 h2 => by
      rw [Nat.mod_eq_of_lt h2]
      exact gv_big n _ T (h8T h) (Nat.mul_le_mul_right _ h1)
    obtain ⟨v, hve⟩ : ∃ v, n + c % 128 * T = v := ⟨_, rfl⟩
    rw [hve] at w4 w5 hv hv8
    clear hve hq hbits hTT h8T hn hT56 hT49
    -- the two loops' heads
    have hsp : ∀ r : Int × Int × Bool, Ev (fun k => if (i : Int) = 8 then spec_l01Get.j2 k s 0 (n : Int) (T : Int) (i : Int) (c : Int) (decide ((c : Int) > 64)) else spec_l01Get.j2 k s 0 (n : Int) (T : Int) (i : Int) (c : Int) false) r → Ev (fun k => spec_l01Get.l0 k s 0 (n : Int) (T : Int) (i : Int)) r := fun r h => by
      apply evsucc
      simp only [spec_l01Get.l0]
      refine evp (by omega) (evsucc ?_)
      simp only [spec_l01Get.j1, w1, w7, w9]
      exact evp (decide_eq_true (by omega)) (evp (by omega) (evp (by omega) h))
    have him : ∀ r : Int × Int × Bool, Ev (fun k => if (c : Int) < 128 then (if ((v : Nat) : Int) > 4611686018427387904 then some (0, 0, false) else if (i : Int) > 0 then (if (c : Int) = 0 then some (0, 0, false) else some ((v : Int), ((i + 1 : Nat) : Int), true)) else some ((v : Int), ((i + 1 : Nat) : Int), true)) else impl_GetVar.l0 k s (v : Int) ((i + 1 : Nat) : Int)) r → Ev (fun k => impl_GetVar.l0 k s (n : Int) (i : Int)) r := fun r h => by
      apply evsucc
      simp only [impl_GetVar.l0]
      refine evp (by omega) (evsucc ?_)
      simp only [impl_GetVar.j1, w1, w2, w3, w4, w6]
      exact evp (decide_eq_true (by omega)) (evp (by omega) (evp (by omega) (evp (by omega) h)))
    have hj2 : ∀ (b : Bool) (r : Int × Int × Bool), b = false → Ev (fun k => if (c : Int) < 128 then (if (c : Int) = 0 then (if (i : Int) > 0 then some (0, 0, false) else if ((v : Nat) : Int) > 4611686018427387904 then some (0, 0, false) else some ((v : Int), ((i + 1 : Nat) : Int), true)) else (if ((v : Nat) : Int) > 4611686018427387904 then some (0, 0, false) else some ((v : Int), ((i + 1 : Nat) : Int), true))) else spec_l01Get.l0 k s 0 (v : Int) (wrap64 ((T : Int) * 128)) ((i + 1 : Nat) : Int)) r → Ev (fun k => spec_l01Get.j2 k s 0 (n : Int) (T : Int) (i : Int) (c : Int) b) r := fun b r hb h => by
      subst hb
      apply evsucc
      simp only [spec_l01Get.j2, w3, w5, w6]
      exact evn (by simp) h
    by_cases hc128 : c < 128
    · -- the last byte
      have good : GoodV s ((v : Int), ((i + 1 : Nat) : Int), true) ∨ v > 4611686018427387904 := by
        by_cases hb : v > 4611686018427387904
        · exact .inr hb
        · exact .inl ⟨by simp, by show (v : Int) ≤ _; omega, by show (0 : Int) ≤ ((i + 1 : Nat) : Int); omega, by show ((i + 1 : Nat) : Int) ≤ _; omega, by simp⟩
      by_cases hb : v > 4611686018427387904
      · refine ⟨(0, 0, false), hsp _ ?_, him _ (evp (by omega) (evp (by omega) (evc fun _ => rfl))), good_no s⟩
        by_cases h8 : i = 8
        · refine evp (by omega) ?_
          by_cases h64 : c > 64
          · apply evsucc
            simp only [spec_l01Get.j2]
            exact evp (decide_eq_true (by omega)) (evc fun _ => rfl)
          · refine hj2 _ _ (decide_eq_false (by omega)) (evp (by omega) ?_)
            by_cases h0 : c = 0
            · exact evp (by omega) (evp (by omega) (evc fun _ => rfl))
            · exact evn (by omega) (evp (by omega) (evc fun _ => rfl))
        · refine evn (by omega) (hj2 _ _ rfl (evp (by omega) ?_))
          by_cases h0 : c = 0
          · refine evp (by omega) ?_
            by_cases hi0 : i = 0
            · exact evn (by omega) (evp (by omega) (evc fun _ => rfl))
            · exact evp (by omega) (evc fun _ => rfl)
          · exact evn (by omega) (evp (by omega) (evc fun _ => rfl))
      · have h64 : i = 8 → ¬ 64 < c := fun h h1 => hb (hv8 h h1 hc128)
        have hbb : ∀ r : Int × Int × Bool, Ev (fun k => spec_l01Get.j2 k s 0 (n : Int) (T : Int) (i : Int) (c : Int) false) r → Ev (fun k => if (i : Int) = 8 then spec_l01Get.j2 k s 0 (n : Int) (T : Int) (i : Int) (c : Int) (decide ((c : Int) > 64)) else spec_l01Get.j2 k s 0 (n : Int) (T : Int) (i : Int) (c : Int) false) r := fun r h => by
          by_cases h8 : i = 8
          · refine evp (by omega) ?_
            rw [decide_eq_false (by have := h64 h8; omega)]
            exact h
          · exact evn (by omega) h
        by_cases h0 : c = 0
        · by_cases hi0 : i = 0
          · refine ⟨((v : Int), ((i + 1 : Nat) : Int), true), hsp _ (hbb _ (hj2 _ _ rfl (evp (by omega) (evp (by omega) (evn (by omega) (evn (by omega) (evc fun _ => rfl))))))), him _ (evp (by omega) (evn (by omega) (evn (by omega) (evc fun _ => rfl)))), ?_⟩
            rcases good with g | g
            · exact g
            · exact absurd g hb
          · exact ⟨(0, 0, false), hsp _ (hbb _ (hj2 _ _ rfl (evp (by omega) (evp (by omega) (evp (by omega) (evc fun _ => rfl)))))), him _ (evp (by omega) (evn (by omega) (evp (by omega) (evp (by omega) (evc fun _ => rfl))))), good_no s⟩
        · refine ⟨((v : Int), ((i + 1 : Nat) : Int), true), hsp _ (hbb _ (hj2 _ _ rfl (evp (by omega) (evn (by omega) (evn (by omega) (evc fun _ => rfl)))))), him _ (evp (by omega) (evn (by omega) ?_)), ?_⟩
          · by_cases hi0 : i = 0
            · exact evn (by omega) (evc fun _ => rfl)
            · exact evp (by omega) (evn (by omega) (evc fun _ => rfl))
          · rcases good with g | g
            · exact g
            · exact absurd g hb
    · by_cases h8 : i = 8
      · refine ⟨(0, 0, false), hsp _ (evp (by omega) ?_), him _ (evn (by omega) (evsucc ?_)), good_no s⟩
        · apply evsucc
          simp only [spec_l01Get.j2]
          exact evp (decide_eq_true (by omega)) (evc fun _ => rfl)
        · simp only [impl_GetVar.l0]
          by_cases hz : ((i + 1 : Nat) : Int) < (s.size : Int)
          · refine evp hz (evsucc ?_)
            simp only [impl_GetVar.j1]
            exact evn (by simp; omega) (evc fun _ => rfl)
          · refine evn hz (evsucc ?_)
            simp only [impl_GetVar.j1]
            exact evn (by simp) (evc fun _ => rfl)
      · obtain ⟨r, h1, h2, h3⟩ := next (by omega) v (hv (by omega))
        refine ⟨r, hsp _ (evn (by omega) (hj2 _ _ rfl (evn (by omega) ?_))), him _ (evn (by omega) h2), h3⟩
        rw [w8 (by omega)]
        exact h1
  · refine ⟨(0, 0, false), evsucc ?_, evsucc ?_, good_no s⟩
    · simp only [spec_l01Get.l0]
      refine evn (by omega) (evsucc ?_)
      simp only [spec_l01Get.j1]
      exact evn (by simp) (evc fun _ => rfl)
    · simp only [impl_GetVar.l0]
      refine evn (by omega) (evsucc ?_)
      simp only [impl_GetVar.j1]
      exact evn (by simp) (evc fun _ => rfl)
theorem getvar_loop (s : ByteArray) (hs : s.size ≤ 2000000) : ∀ (d i n : Nat), i + d = 8 → n < 2 ^ (7 * i) →
    ∃ r : Int × Int × Bool, Ev (fun k => spec_l01Get.l0 k s 0 (n : Int) ((2 ^ (7 * i) : Nat) : Int) (i : Int)) r ∧ Ev (fun k => impl_GetVar.l0 k s (n : Int) (i : Int)) r ∧ GoodV s r := by
  have p56 : ∀ i, i ≤ 8 → 2 ^ (7 * i) ≤ 72057594037927936 := fun i h => (Nat.pow_le_pow_right (by omega) (show 7 * i ≤ 56 by omega) : 2 ^ (7 * i) ≤ 2 ^ 56)
  have p49 : ∀ i, i < 8 → 2 ^ (7 * i) ≤ 562949953421312 := fun i h => (Nat.pow_le_pow_right (by omega) (show 7 * i ≤ 49 by omega) : 2 ^ (7 * i) ≤ 2 ^ 49)
  have p8 : ∀ i, i = 8 → 2 ^ (7 * i) = 72057594037927936 := fun i h => by subst h; rfl
  have pn : ∀ i, 2 ^ (7 * (i + 1)) = 2 ^ (7 * i) * 128 := fun i => by rw [show 7 * (i + 1) = 7 * i + 7 from by omega, Nat.pow_add]
  intro d
  induction d with
  | zero => intro i n h hn; exact getvar_step s hs i n _ (2 ^ (7 * (i + 1))) (p56 i (by omega)) (fun _ => pn i) (p49 i) (p8 i) (by omega) hn (fun m hm => or_low n m (7 * i) hn hm (by omega)) (fun h8 => by omega)
  | succ d ih => intro i n h hn; exact getvar_step s hs i n _ (2 ^ (7 * (i + 1))) (p56 i (by omega)) (fun _ => pn i) (p49 i) (p8 i) (by omega) hn (fun m hm => or_low n m (7 * i) hn hm (by omega)) (fun _ n' hn' => ih (i + 1) n' (by omega) hn')
theorem getvar_same (s : ByteArray) (hs : s.size ≤ 2000000) : ∃ r : Int × Int × Bool, Ev (fun k => spec_l01Get.f k s 0) r ∧ Ev (fun k => spec_GetVar.f k s) r ∧ Ev (fun k => impl_GetVar.f k s) r ∧ GoodV s r := by
  obtain ⟨r, h1, h2, h3⟩ := getvar_loop s hs 8 0 0 rfl (by decide)
  have h0 : Ev (fun k => spec_l01Get.f k s 0) r := h1
  exact ⟨r, h0, evb h0 (evc fun _ => rfl), h2, h3⟩
theorem ba_ext_ext (s : ByteArray) (a z : Nat) (ha : a ≤ s.size) : (s.extract a s.size).extract z (s.extract a s.size).size = s.extract (a + z) s.size := by
  have hL : s.data.toList.length = s.size := by simp
  apply ByteArray.ext
  apply Array.ext'
  have e1 : ∀ (t : ByteArray) (i : Nat), (t.extract i t.size).data.toList = t.data.toList.drop i := fun t i => by
    have hl : t.data.toList.length = t.size := by simp
    have : (t.extract i t.size).data.toList = (t.data.toList.drop i).take (t.size - i) := by simp
    rw [this, List.take_of_length_le (by simp)]
  rw [e1, e1, e1, List.drop_drop]
theorem num_same (s : ByteArray) (hs : s.size ≤ 2000000) (a : Nat) (ha : a ≤ s.size) (b : Bool) : ∃ (n : Int) (a' : Nat) (b' : Bool), Ev (fun k => spec_l16Src_num.f k s (a : Int) b) (n, s, (a' : Int), b') ∧ Ev (fun k => impl_binary_number.f k (s.extract a s.size) b) (n, s.extract a' s.size, b') ∧ a' ≤ s.size := by
  have hz : (s.extract a s.size).size = s.size - a := by rw [ByteArray.size_extract]; omega
  obtain ⟨⟨n, z, ok⟩, _, h1, h2, g0, g1, g2, g3, g4⟩ := getvar_same (s.extract a s.size) (by omega)
  simp only at g0 g1 g2 g3 g4
  obtain ⟨y, rfl⟩ := Int.eq_ofNat_of_zero_le g2
  have hx := ba_ext_ext s a y ha
  unfold spec_l16Src_num.f impl_binary_number.f
  cases ok with
  | true =>
    refine ⟨n, a + y, b, evp (by omega) (evp (by omega) ?_), ?_, by omega⟩
    · rw [Int.toNat_natCast]
      refine evb h1 (evp rfl (evc fun _ => ?_))
      simp only
      rw [show wrap64 ((a : Int) + (y : Int)) = ((a + y : Nat) : Int) from by unfold wrap64; omega]
    · refine evb h2 (evp rfl (evp (by omega) (evp g3 (evc fun _ => ?_))))
      simp only
      rw [Int.toNat_natCast, hx]
  | false =>
    obtain ⟨rfl, hy⟩ := g4 rfl
    obtain rfl : y = 0 := by omega
    refine ⟨0, a, true, evp (by omega) (evp (by omega) ?_), ?_, ha⟩
    · rw [Int.toNat_natCast]
      exact evb h1 (evn (by simp) (evc fun _ => rfl))
    · refine evb h2 (evn (by simp) (evp (by omega) (evp g3 (evc fun _ => ?_))))
      simp only
      rw [Int.toNat_natCast, hx]
      rfl
theorem getText_same (s : ByteArray) (hs : s.size ≤ 2000000) : ∃ (t : ByteArray) (y : Nat) (ok : Bool), Ev (fun k => spec_GetText.f k s) (t, (y : Int), ok) ∧ Ev (fun k => impl_GetText.f k s) (t, (y : Int), ok) ∧ y ≤ s.size ∧ (ok = false → t = ⟨#[]⟩ ∧ y = 0) := by
  obtain ⟨⟨n, z, ok⟩, h0, _, h2, g0, g1, g2, g3, g4⟩ := getvar_same s hs
  simp only at g0 g1 g2 g3 g4
  have hw : wrap64 ((s.size : Int) - z) = (s.size : Int) - z := by unfold wrap64; omega
  unfold spec_GetText.f spec_l01GetText.f impl_GetText.f
  cases ok with
  | false => exact ⟨⟨#[]⟩, 0, false, evb (evb h0 (evn (by simp) (evc fun _ => rfl))) (evc fun _ => rfl), evb h2 (evn (by simp) (evc fun _ => rfl)), by omega, fun _ => ⟨rfl, rfl⟩⟩
  | true =>
    by_cases hn : n > (s.size : Int) - z
    · exact ⟨⟨#[]⟩, 0, false, evb (evb h0 (evp rfl (evp (by simp only; rw [hw]; exact hn) (evc fun _ => rfl)))) (evc fun _ => rfl), evb h2 (evp rfl (evp (by simp only; rw [hw]; exact hn) (evc fun _ => rfl))), by omega, fun _ => ⟨rfl, rfl⟩⟩
    · have hw2 : wrap64 (z + n) = z + n := by unfold wrap64; omega
      have e : wrap64 (z + n) = (((z + n).toNat : Nat) : Int) := by rw [hw2]; omega
      refine ⟨s.extract z.toNat (wrap64 (z + n)).toNat, (z + n).toNat, true, ?_, ?_, by omega, by simp⟩
      · rw [← e]
        exact evb (evb h0 (evp rfl (evn (by simp only; rw [hw]; exact hn) (evp g2 (evp (by simp only; rw [hw2]; omega) (evp (by simp only; rw [hw2]; omega) (evc fun _ => rfl))))))) (evc fun _ => rfl)
      · rw [← e]
        exact evb h2 (evp rfl (evn (by simp only; rw [hw]; exact hn) (evp g2 (evp (by simp only; rw [hw2]; omega) (evp (by simp only; rw [hw2]; omega) (evc fun _ => rfl))))))
theorem str_same (s : ByteArray) (hs : s.size ≤ 2000000) (a : Nat) (ha : a ≤ s.size) (b : Bool) : ∃ (t : ByteArray) (a' : Nat) (b' : Bool), Ev (fun k => spec_l16Src_str.f k s (a : Int) b) (t, s, (a' : Int), b') ∧ Ev (fun k => impl_binary_text.f k (s.extract a s.size) b) (t, s.extract a' s.size, b') ∧ a' ≤ s.size := by
  have hz : (s.extract a s.size).size = s.size - a := by rw [ByteArray.size_extract]; omega
  obtain ⟨t, y, ok, h1, h2, g3, g4⟩ := getText_same (s.extract a s.size) (by omega)
  have hx := ba_ext_ext s a y ha
  unfold spec_l16Src_str.f impl_binary_text.f
  cases ok with
  | true =>
    refine ⟨t, a + y, b, evp (by omega) (evp (by omega) ?_), ?_, by omega⟩
    · rw [Int.toNat_natCast]
      refine evb h1 (evp rfl (evc fun _ => ?_))
      simp only
      rw [show wrap64 ((a : Int) + (y : Int)) = ((a + y : Nat) : Int) from by unfold wrap64; omega]
    · refine evb h2 (evp rfl (evp (by simp only; omega) (evp (by simp only; omega) (evc fun _ => ?_))))
      simp only
      rw [Int.toNat_natCast, hx]
  | false =>
    obtain ⟨rfl, rfl⟩ := g4 rfl
    refine ⟨⟨#[]⟩, a, true, evp (by omega) (evp (by omega) ?_), ?_, ha⟩
    · rw [Int.toNat_natCast]
      exact evb h1 (evn (by simp) (evc fun _ => rfl))
    · refine evb h2 (evn (by simp) (evp (by simp only; omega) (evp (by simp only; omega) (evc fun _ => ?_))))
      simp only
      rw [Int.toNat_natCast, hx]
      rfl
theorem getOp_same (s : ByteArray) (hs : s.size ≤ 2000000) : ∃ r : Int × Int × ByteArray × Int × Bool, Ev (fun k => spec_GetOp.f k s) r ∧ Ev (fun k => impl_GetOp.f k s) r := by
  have e0 : s.extract 0 s.size = s := by simp
  obtain ⟨x, a1, b1, p1, q1, l1⟩ := num_same s hs 0 (by omega) false
  obtain ⟨y, a2, b2, p2, q2, l2⟩ := num_same s hs a1 l1 b1
  obtain ⟨t, a3, b3, p3, q3, l3⟩ := str_same s hs a2 l2 b2
  rw [e0] at q1
  have hz : (s.extract a3 s.size).size = s.size - a3 := by rw [ByteArray.size_extract]; omega
  unfold spec_GetOp.f impl_GetOp.f spec_l16Plain.f impl_plainCode.f
  simp only [Option.bind_some]
  cases b3 with
  | true => exact ⟨_, evb p1 (evb p2 (evb p3 (evp rfl (evc fun _ => rfl)))), evb q1 (evb q2 (evb q3 (evp rfl (evc fun _ => rfl))))⟩
  | false =>
    obtain ⟨v, o1, o2, _⟩ := opOk_ex x y t
    have v1 : Ev (fun k => spec_OpOk.f k 1 0 x y t) v := evsucc (evc o1)
    have v2 : Ev (fun k => impl_OpOk.f k 1 0 x y t) v := evsucc (evc o2)
    cases v with
    | false => exact ⟨_, evb p1 (evb p2 (evb p3 (evn (by simp) (evb v1 (evn (by simp) (evc fun _ => rfl)))))), evb q1 (evb q2 (evb q3 (evn (by simp) (evb v2 (evn (by simp) (evc fun _ => rfl))))))⟩
    | true =>
      refine ⟨(x, y, t, (a3 : Int), true), evb p1 (evb p2 (evb p3 (evn (by simp) (evb v1 (evp rfl (evc fun _ => rfl)))))), evb q1 (evb q2 (evb q3 (evn (by simp) (evb v2 (evp rfl (evc fun _ => ?_))))))⟩
      simp only
      rw [hz, show wrap64 ((s.size : Int) - ((s.size - a3 : Nat) : Int)) = (a3 : Int) from by unfold wrap64; omega]
theorem FnExactGetOp : Stmt.FnExactGetOp.PureS := by
  intro s _
  apply ev_ex
  unfold laws_FnExactGetOp.f
  by_cases h : (s.size : Int) > 1048576
  · exact evp h (evc fun _ => rfl)
  · obtain ⟨r, h1, h2⟩ := getOp_same s (by omega)
    refine evn h (evb h1 (evb h2 (evk (a := true) (by simp [laws_eqOp.f]) (evp rfl (evp rfl (evn (by simp) (evc fun _ => rfl)))))))
end Go.Proofs.Ythphhklbliambaa.Pure
