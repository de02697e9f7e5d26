/- Applying drawn operations: both sides agree, the body is no longer than it may be, an operation is read back from its encoding, and two parts do what the whole does. The input: any two lists of bytes within the reach. -/
import Derived.Test.YthphhklbliambaaStmtFnOps
import Derived.Lib.Strings
set_option linter.unusedSimpArgs false
set_option linter.unusedVariables false
namespace Go.Proofs.Ythphhklbliambaa.Pure
open Go.RowKit Go.Proofs.Ythphhklbliambaa.MFnOps Go.Proofs.YthphhklbliambaaW.PrintWords Go.Proofs.YthphhklbliambaaW.PrintLast
theorem evc {α : Type} {g : Nat → Option α} {r : α} (h : ∀ k, g k = some r) : Ev g r := ⟨0, fun k _ => h k⟩
theorem evsucc {α : Type} {g : Nat → Option α} {r : α} (h : Ev (fun k => g (k + 1)) r) : Ev g r := by
  obtain ⟨K, hK⟩ := h
  refine ⟨K + 1, fun k hk => ?_⟩
  obtain ⟨k, rfl⟩ : ∃ m, k = m + 1 := ⟨k - 1, by omega⟩
  exact hK k (by omega)
theorem evp {α : Type} {c : Prop} [Decidable c] {g f : Nat → Option α} {r : α} (hc : c) (h : Ev g r) : Ev (fun k => if c then g k else f k) r := by
  simp only [if_pos hc]; exact h
theorem evn {α : Type} {c : Prop} [Decidable c] {g f : Nat → Option α} {r : α} (hc : ¬ c) (h : Ev f r) : Ev (fun k => if c then g k else f k) r := by
  simp only [if_neg hc]; exact h
theorem evb {α β : Type} {g : Nat → Option α} {f : Nat → α → Option β} {a : α} {r : β} (h : Ev g a) (k : Ev (fun n => f n a) r) : Ev (fun n => (g n).bind (f n)) r := Ev.bind h k
theorem evk {α β : Type} {g : Option α} {f : Nat → α → Option β} {a : α} {r : β} (h : g = some a) (k : Ev (fun n => f n a) r) : Ev (fun n => g.bind (f n)) r := by subst h; exact k
theorem ev_ex {α : Type} {g : Nat → Option α} {r : α} (h : Ev g r) : ∃ k, g k = some r := by obtain ⟨K, hK⟩ := h; exact ⟨K, hK K (Nat.le_refl _)⟩
theorem wsucc {i n : Nat} (h : i < n) (hn : n ≤ 140737488351232) : wrap64 ((i : Int) + 1) = ((i + 1 : Nat) : Int) := by unfold wrap64; omega
theorem rd_at {l : List Int} {i : Nat} (h : i < l.length) : rd l (i : Int) = l[i] := by
  simp [rd, List.getD_eq_getElem?_getD, List.getElem?_eq_getElem h]
theorem drop_at {α : Type} {l : List α} {i : Nat} (h : i < l.length) : l.drop i = l[i] :: l.drop (i + 1) := List.drop_eq_getElem_cons h
theorem take_at {α : Type} {l : List α} {i : Nat} (h : i < l.length) : l.take (i + 1) = l.take i ++ [l[i]] := by
  rw [List.take_succ_eq_append_getElem h]
theorem between_eq (a b c : Int) : impl_between.f a b c = some (decide (b ≤ a ∧ a ≤ c)) := by
  unfold impl_between.f
  by_cases h : a ≥ b
  · have h' : b ≤ a := h
    simp [h, h']
  · have h' : ¬ b ≤ a := h
    simp [h, h']
theorem l00In_eq (a b c : Int) : spec_l00In.f a b c = some (decide (b ≤ a ∧ a ≤ c)) := by
  unfold spec_l00In.f
  by_cases h : a ≥ b
  · have h' : b ≤ a := h
    simp [h, h']
  · have h' : ¬ b ≤ a := h
    simp [h, h']
def codeB (a b : Int) : Bool := decide (1 ≤ a ∧ a ≤ 4) && decide (0 ≤ b ∧ b ≤ 3)
theorem codeOk_impl (a b : Int) : impl_CodeOk.f a b = some (codeB a b) := by
  unfold impl_CodeOk.f codeB
  simp only [between_eq, Option.bind_some]
  by_cases h : 1 ≤ a ∧ a ≤ 4 <;> simp [h]
theorem codeOk_spec (a b : Int) : spec_CodeOk.f a b = some (codeB a b) := by
  unfold spec_CodeOk.f spec_l04Code.f codeB
  simp only [l00In_eq, Option.bind_some]
  by_cases h : 1 ≤ a ∧ a ≤ 4 <;> simp [h]
theorem opOk_same (k : Nat) (a b x y : Int) (s : ByteArray) : ∃ v, spec_OpOk.f (k + 1) a b x y s = some v ∧ impl_OpOk.f (k + 1) a b x y s = some v := by
  unfold spec_OpOk.f impl_OpOk.f
  simp only [codeOk_impl, codeOk_spec, l00In_eq, Option.bind_some, spec_OpOk.j0, impl_OpOk.j0, between_eq]
  cases codeB a b with
  | false => exact ⟨false, by simp⟩
  | true =>
    simp only [if_true]
    by_cases h1 : x = 1
    · subst h1; by_cases hy : y = 0 <;> simp [hy]
    · by_cases h6 : x = 6
      · subst h6; by_cases hy : y = 0 <;> simp [hy]
      · have e1 : (x == 1) = false := by simp [h1]
        have e6 : (x == 6) = false := by simp [h6]
        simp only [if_neg h1, e6, Bool.false_eq_true, if_false]
        by_cases h2 : x = 2
        · subst h2; by_cases hy : y = 0 <;> simp [hy]
        · by_cases h3 : x = 3
          · subst h3; by_cases ha : a = 1 <;> by_cases hr : 0 ≤ y ∧ y ≤ 64 <;> simp [ha, hr]
          · by_cases h4 : x = 4
            · subst h4; by_cases ha : a = 1 <;> by_cases hy : y = 0 <;> simp [ha, hy]
            · by_cases h5 : x = 5
              · subst h5; by_cases ha : a = 1 <;> by_cases hr : 0 ≤ y ∧ y ≤ 64 <;> simp [ha, hr]
              · simp [h2, h3, h4, h5]
theorem empty_size {s : ByteArray} (h : (s.toList == ([] : List UInt8)) = true) : s.size ≤ 64 := by
  have h1 : s.toList = [] := by simpa using h
  have h2 : s.size = 0 := by
    rw [Lib.toList_data] at h1
    have := congrArg List.length h1
    simpa using this
  omega
theorem opOk_bounds (k : Nat) (a b x y : Int) (s : ByteArray) (h : impl_OpOk.f (k + 1) a b x y s = some true) : 1 ≤ x ∧ x ≤ 6 ∧ 0 ≤ y ∧ y ≤ 64 ∧ s.size ≤ 64 := by
  unfold impl_OpOk.f at h
  simp only [codeOk_impl, Option.bind_some, impl_OpOk.j0, between_eq] at h
  cases hc : codeB a b with
  | false => rw [hc] at h; simp at h
  | true =>
    rw [hc] at h
    simp only [if_true] at h
    by_cases h1 : x = 1
    · subst h1
      by_cases hy : y = 0
      · subst hy
        simp only [if_true, beq_self_eq_true, Option.some.injEq] at h
        have := empty_size h
        omega
      · simp [hy] at h
    · by_cases h6 : x = 6
      · subst h6
        by_cases hy : y = 0
        · subst hy
          simp only [if_true, beq_self_eq_true, Option.some.injEq, if_neg h1] at h
          have := empty_size h
          omega
        · simp [hy] at h
      · have e6 : (x == 6) = false := by simp [h6]
        simp only [if_neg h1, e6, Bool.false_eq_true, if_false] at h
        by_cases h2 : x = 2
        · subst h2
          by_cases hy : y = 0
          · simp [hy] at h; omega
          · simp [hy] at h
        · by_cases h3 : x = 3
          · subst h3
            by_cases ha : a = 1 <;> by_cases hr : 0 ≤ y ∧ y ≤ 64 <;> simp [ha, hr] at h
            omega
          · by_cases h4 : x = 4
            · subst h4
              by_cases ha : a = 1 <;> by_cases hy : y = 0 <;> simp [ha, hy] at h
              omega
            · by_cases h5 : x = 5
              · subst h5
                by_cases ha : a = 1
                · by_cases hr : 0 ≤ y ∧ y ≤ 64
                  · simp only [ha, if_true, Option.some.injEq, if_neg h2, if_neg h3, if_neg h4, decide_eq_true hr] at h
                    have := empty_size h
                    omega
                  · simp [ha, hr] at h
                · simp [ha] at h
              · simp [h2, h3, h4, h5] at h
theorem opOk_ex (x y : Int) (s : ByteArray) : ∃ v : Bool, (∀ k, spec_OpOk.f (k + 1) 1 0 x y s = some v) ∧ (∀ k, impl_OpOk.f (k + 1) 1 0 x y s = some v) ∧ (v = true → 1 ≤ x ∧ x ≤ 6 ∧ 0 ≤ y ∧ y ≤ 64 ∧ s.size ≤ 64) := by
  obtain ⟨v, h1, h2⟩ := opOk_same 0 1 0 x y s
  refine ⟨v, fun k => ?_, fun k => ?_, fun hv => opOk_bounds 0 1 0 x y s (by rw [h2, hv])⟩
  · rw [← h1]; unfold spec_OpOk.f; simp only [spec_OpOk.j0]
  · rw [← h2]; unfold impl_OpOk.f; simp only [impl_OpOk.j0]
theorem ow_both (B X : ByteArray) (a : Int) (h0 : 0 ≤ a) (h1 : a ≤ 64) (hB : B.size ≤ 64) (hX : X.size ≤ 64) : ∃ r, spec_l16Lay.f B a X = some r ∧ impl_overwritten.f B a X = some r ∧ r.size ≤ 64 := by
  unfold spec_l16Lay.f impl_overwritten.f
  rw [if_pos ⟨h0, h1, hB, hX⟩]
  refine ⟨_, rfl, rfl, ?_⟩
  have hp := spec_l16Lay.pad_length B.data.toList a.toNat
  have hB' : B.data.toList.length = B.size := by simp
  have hX' : X.data.toList.length = X.size := by simp
  have hl := spec_l16Lay.lay_length (spec_l16Lay.pad B.data.toList a.toNat) X.data.toList a.toNat (min X.size (64 - a.toNat)) (by omega) (by omega)
  show (spec_l16Lay.lay (spec_l16Lay.pad B.data.toList a.toNat) X.data.toList a.toNat (min X.size (64 - a.toNat))).toArray.size ≤ 64
  rw [List.size_toArray, hl]
  omega
/-- What the two do with an operation that is right. -/
theorem apply_same (b : ByteArray) (t : Bool) (x y : Int) (s : ByteArray) (hb : b.size ≤ 64) (hx : 1 ≤ x ∧ x ≤ 6 ∧ 0 ≤ y ∧ y ≤ 64 ∧ s.size ≤ 64) : ∃ r : ByteArray × Bool, (∀ k, spec_ApplyOp.j1 (k + 1) b t x y s = some r) ∧ (∀ k, impl_Op_apply.j0 (k + 1) b t x y s = some r) ∧ r.1.size ≤ 64 := by
  obtain ⟨h1, h6, hy0, hy1, hs⟩ := hx
  obtain ⟨q, hq1, hq2, hq3⟩ := ow_both b s y hy0 hy1 hb hs
  obtain ⟨p, hp1, hp2, hp3⟩ := ow_both b s (b.size : Int) (by omega) (by omega) hb hs
  by_cases e1 : x = 1
  · subst e1; exact ⟨(b, t), fun k => (by simp [spec_ApplyOp.j1]), fun k => by simp [impl_Op_apply.j0], hb⟩
  · by_cases e2 : x = 2
    · subst e2; exact ⟨(s, true), fun k => (by simp [spec_ApplyOp.j1]), fun k => by simp [impl_Op_apply.j0], hs⟩
    · by_cases e3 : x = 3
      · subst e3; exact ⟨(q, true), fun k => (by simp [spec_ApplyOp.j1, hq1]), fun k => by simp [impl_Op_apply.j0, hq2], hq3⟩
      · by_cases e4 : x = 4
        · subst e4; exact ⟨(p, true), fun k => (by simp [spec_ApplyOp.j1, hp1]), fun k => by simp [impl_Op_apply.j0, hp2], hp3⟩
        · by_cases e5 : x = 5
          · subst e5
            have hm : mn (b.size : Int) y = if y < (b.size : Int) then y else (b.size : Int) := rfl
            have hn : spec_l00Min.f y (b.size : Int) = some (if y < (b.size : Int) then y else (b.size : Int)) := by unfold spec_l00Min.f; split <;> rfl
            refine ⟨(b.extract 0 (if y < (b.size : Int) then y else (b.size : Int)).toNat, t), fun k => ?_, fun k => ?_, by simp only [ByteArray.size_extract]; omega⟩
            · simp only [spec_ApplyOp.j1, hn, Option.bind_some]
              rw [if_neg (by omega), if_neg (by omega), if_neg (by omega), if_neg (by omega), if_pos trivial, if_pos (by split <;> omega), if_pos (by split <;> omega)]
            · simp only [impl_Op_apply.j0, hm]
              rw [if_neg (by omega), if_neg (by omega), if_neg (by omega), if_pos trivial, if_pos (by split <;> omega), if_pos (by split <;> omega)]
          · obtain rfl : x = 6 := by omega
            exact ⟨((⟨#[]⟩ : ByteArray), false), fun k => by simp [spec_ApplyOp.j1], fun k => by simp [impl_Op_apply.j0], by decide⟩
theorem rdO_at {l : List S60} {i : Nat} (h : i < l.length) : rd_T60 l (i : Int) = l[i] := by
  simp [rd_T60, List.getD_eq_getElem?_getD, List.getElem?_eq_getElem h]
/-- One operation that is right, at a body that is no longer than it may be. -/
theorem step_same (b : ByteArray) (t : Bool) (x y : Int) (s : ByteArray) (hb : b.size ≤ 64) (h1 : ∀ k, spec_OpOk.f (k + 1) 1 0 x y s = some true) (hx : 1 ≤ x ∧ x ≤ 6 ∧ 0 ≤ y ∧ y ≤ 64 ∧ s.size ≤ 64) :
    ∃ r : ByteArray × Bool, (∀ k, spec_ApplyOp.f (k + 2) b t x y s = some r) ∧ (∀ k, impl_Op_apply.f (k + 1) x y s b t = some r) ∧ r.1.size ≤ 64 := by
  have e1 : ∀ k, spec_ApplyOp.f (k + 2) b t x y s = spec_ApplyOp.j0 (k + 2) b t false x y s := fun k => by
    unfold spec_ApplyOp.f spec_l16Plain.f
    simp only [Option.bind_some, h1 (k + 1), if_true]
    rw [decide_eq_false (by omega)]
  cases t with
  | true =>
    obtain ⟨r, q1, q2, q3⟩ := apply_same b true x y s hb hx
    exact ⟨r, fun k => by rw [e1]; simp only [spec_ApplyOp.j0, Bool.false_eq_true, if_false, if_true]; exact q1 k, fun k => by unfold impl_Op_apply.f; rw [if_pos rfl]; exact q2 k, q3⟩
  | false =>
    obtain ⟨r, q1, q2, q3⟩ := apply_same (⟨#[]⟩ : ByteArray) false x y s (by decide) hx
    exact ⟨r, fun k => by rw [e1]; simp only [spec_ApplyOp.j0, Bool.false_eq_true, if_false]; exact q1 k, fun k => by unfold impl_Op_apply.f; rw [if_neg (by decide)]; exact q2 k, q3⟩
theorem ops_loop (m : List S60) (hm : m.length ≤ 24) : ∀ (d i : Nat) (b : ByteArray) (t : Bool), i + d = m.length → b.size ≤ 64 →
    ∃ r : ByteArray × Bool, Ev (fun k => spec_ApplyOps.l0 k b t m (i : Int)) r ∧ (((m.drop i).any fun x => !impl_ApplyOps.okB x) = true → r = ((⟨#[]⟩ : ByteArray), false)) ∧ (((m.drop i).any fun x => !impl_ApplyOps.okB x) = false → impl_ApplyOps.l0 b t (m.drop i) = some r) := by
  intro d
  induction d with
  | zero =>
    intro i b t h hb
    refine ⟨(b, t), evsucc ?_, ?_, ?_⟩
    · simp only [spec_ApplyOps.l0]
      exact evn (by omega) (evc fun _ => rfl)
    · rw [List.drop_of_length_le (by omega)]; simp
    · rw [List.drop_of_length_le (by omega)]; intro _; rfl
  | succ d ih =>
    intro i b t h hb
    have hi : i < m.length := by omega
    obtain ⟨v, h1, h2, h3⟩ := opOk_ex m[i].f0 m[i].f1 m[i].f2
    have hok : impl_ApplyOps.okB m[i] = v := by unfold impl_ApplyOps.okB; rw [h2 1]; rfl
    have hv : Ev (fun k => spec_OpOk.f k 1 0 m[i].f0 m[i].f1 m[i].f2) v := evsucc (evc h1)
    rw [drop_at hi, List.any_cons, hok]
    cases v with
    | false =>
      refine ⟨((⟨#[]⟩ : ByteArray), false), evsucc ?_, fun _ => rfl, by simp⟩
      simp only [spec_ApplyOps.l0, spec_l16Plain.f, Option.bind_some]
      rw [rdO_at hi]
      exact evp (by omega) (evp (by omega) (evb hv (evn (by simp) (evc fun _ => rfl))))
    | true =>
      obtain ⟨r1, q1, q2, q3⟩ := step_same b t _ _ _ hb h1 (h3 rfl)
      obtain ⟨r, e1, e2, e3⟩ := ih (i + 1) r1.1 r1.2 (by omega) q3
      refine ⟨r, evsucc ?_, by simpa using e2, fun hh => ?_⟩
      · simp only [spec_ApplyOps.l0, spec_l16Plain.f, Option.bind_some]
        rw [rdO_at hi, wsucc hi (by omega)]
        exact evp (by omega) (evp (by omega) (evb hv (evp (by trivial) (evb (evsucc (evsucc (evc q1))) e1))))
      · simp only [impl_ApplyOps.l0]
        rw [q2 1]
        exact e3 (by simpa using hh)
theorem applyOps_same (b : ByteArray) (t : Bool) (m : List S60) : ∃ r : ByteArray × Bool, Ev (fun k => spec_ApplyOps.f k b t m) r ∧ impl_ApplyOps.f b t m = some r := by
  have e0 : ∀ c : Bool, c = true → Ev (fun k => spec_ApplyOps.j0 k b t m c) ((⟨#[]⟩ : ByteArray), false) := fun c hc => by
    subst hc
    apply evsucc
    simp only [spec_ApplyOps.j0]
    exact evp (by trivial) (evc fun _ => rfl)
  unfold spec_ApplyOps.f
  by_cases h1 : (m.length : Int) > 24
  · refine ⟨_, evp h1 (e0 true rfl), ?_⟩
    unfold impl_ApplyOps.f
    rw [if_neg (by omega)]
  · by_cases h2 : (b.size : Int) > 64
    · refine ⟨_, evn h1 (e0 _ (decide_eq_true h2)), ?_⟩
      unfold impl_ApplyOps.f
      rw [if_neg (by omega)]
    · have hall : (m.all fun x => (impl_OpOk.f 2 1 0 x.f0 x.f1 x.f2).isSome) = true := by
        rw [List.all_eq_true]
        intro x _
        obtain ⟨v, _, q, _⟩ := opOk_ex x.f0 x.f1 x.f2
        rw [q 1]; rfl
      have key : ∀ (b' : ByteArray), b'.size ≤ 64 → b' = (if t = true then b else (⟨#[]⟩ : ByteArray)) → ∃ r : ByteArray × Bool, Ev (fun k => spec_ApplyOps.l0 k b' t m 0) r ∧ impl_ApplyOps.f b t m = some r := by
        intro b' hb' hbe
        obtain ⟨r, q1, q2, q3⟩ := ops_loop m (by omega) m.length 0 b' t (by omega) hb'
        refine ⟨r, q1, ?_⟩
        unfold impl_ApplyOps.f
        rw [if_pos ⟨by omega, by omega⟩, if_pos hall, ← hbe]
        rw [List.drop_zero] at q2 q3
        by_cases ha : (m.any fun x => !impl_ApplyOps.okB x) = true
        · rw [if_pos ha, q2 ha]
        · rw [if_neg ha]
          exact q3 (by simpa using ha)
      cases t with
      | true =>
        obtain ⟨r, q1, q2⟩ := key b (by omega) rfl
        refine ⟨r, evn h1 (evsucc ?_), q2⟩
        simp only [spec_ApplyOps.j0, decide_eq_false h2]
        refine evn (by simp) (evp (by trivial) (evsucc ?_))
        simp only [spec_ApplyOps.j1]
        exact q1
      | false =>
        obtain ⟨r, q1, q2⟩ := key (⟨#[]⟩ : ByteArray) (by decide) rfl
        refine ⟨r, evn h1 (evsucc ?_), q2⟩
        simp only [spec_ApplyOps.j0, decide_eq_false h2]
        refine evn (by simp) (evn (by simp) (evsucc ?_))
        simp only [spec_ApplyOps.j1]
        exact q1
theorem w64n (x : Nat) (h : x < 9223372036854775808) : wrap64 (x : Int) = (x : Int) := by unfold wrap64; omega
theorem or_i64 (a b : Nat) (ha : a < 9223372036854775808) (hb : b < 9223372036854775808) : Go.bits .or .i64 (a : Int) (b : Int) = ((a ||| b : Nat) : Int) := by
  have hx : a ||| b < 2 ^ 63 := Nat.or_lt_two_pow (by omega) (by omega)
  have h1 : (BitVec.ofInt 64 (a : Int)).toNat = a := by
    rw [BitVec.ofInt_natCast, BitVec.toNat_ofNat]; exact Nat.mod_eq_of_lt (by omega)
  have h2 : (BitVec.ofInt 64 (b : Int)).toNat = b := by
    rw [BitVec.ofInt_natCast, BitVec.toNat_ofNat]; exact Nat.mod_eq_of_lt (by omega)
  show Go.IntKind.i64.wrap ((BitVec.ofInt 64 (a : Int) ||| BitVec.ofInt 64 (b : Int)).toNat : Int) = _
  rw [BitVec.toNat_or, h1, h2, i64_w]
  exact w64n _ (by omega)
theorem or_low (n m e : Nat) (hn : n < 2 ^ e) (hm : m ≤ 127) (he : e ≤ 56) : Go.bits .or .i64 (n : Int) (shl .i64 (m : Int) (e : Int)) = ((n + m * 2 ^ e : Nat) : Int) := by
  have hp : 2 ^ e ≤ 2 ^ 56 := Nat.pow_le_pow_right (by omega) he
  have hq : m * 2 ^ e ≤ 127 * 2 ^ 56 := Nat.mul_le_mul hm hp
  have hs : shl .i64 (m : Int) (e : Int) = ((m * 2 ^ e : Nat) : Int) := by
    show Go.IntKind.i64.wrap ((m : Int) * 2 ^ min ((e : Int).toNat) 64) = _
    rw [i64_w, Int.toNat_natCast, Nat.min_eq_left (by omega), show (m : Int) * 2 ^ e = ((m * 2 ^ e : Nat) : Int) from by rw [Int.natCast_mul, Int.natCast_pow]; rfl]
    exact w64n _ (by omega)
  rw [hs, or_i64 _ _ (by omega) (by omega), Nat.or_comm, Nat.mul_comm m, ← Nat.two_pow_add_eq_or_of_lt hn m, Nat.add_comm]
theorem and255 (E : Int) (h0 : 0 ≤ E) (h1 : E ≤ 18446744073709551615) : 0 ≤ Go.bits .and .u64 E 255 ∧ Go.bits .and .u64 E 255 ≤ 255 := by
  have h := Go.bits_and_u64_nat E.toNat 255 (by omega) (by omega)
  rw [Int.toNat_of_nonneg h0] at h
  have h2 : E.toNat &&& 255 ≤ 255 := Nat.and_le_right
  have h3 : Go.bits .and .u64 E 255 = ((E.toNat &&& 255 : Nat) : Int) := h
  rw [h3]; omega
theorem w255 (E : Int) : 0 ≤ wrap64 (Go.bits .and .u64 (Go.IntKind.u64.wrap E / 1099511627776) 255) ∧ wrap64 (Go.bits .and .u64 (Go.IntKind.u64.wrap E / 1099511627776) 255) ≤ 255 := by
  have h0 : 0 ≤ Go.IntKind.u64.wrap E ∧ Go.IntKind.u64.wrap E ≤ 18446744073709551615 := by rw [Go.IntKind.wrap_u64]; omega
  have := and255 (Go.IntKind.u64.wrap E / 1099511627776) (by omega) (by omega)
  generalize Go.bits .and .u64 (Go.IntKind.u64.wrap E / 1099511627776) 255 = b at this ⊢
  unfold wrap64; omega
def Bytes (l : List Int) : Prop := ∀ x ∈ l, 0 ≤ x ∧ x ≤ 255
theorem next_ok {l : List Int} (hb : Bytes l) (p c : Int) (h0 : 0 ≤ p) (h1 : p ≤ 1000000) : ∃ a d, spec_l00Src_next.f l p c = some (a, p + 1, d) ∧ 0 ≤ a ∧ a ≤ 255 := by
  unfold spec_l00Src_next.f
  have e : wrap64 (p + 1) = p + 1 := by unfold wrap64; omega
  rw [e]
  by_cases h : p < (l.length : Int)
  · obtain ⟨i, rfl⟩ : ∃ i : Nat, p = (i : Int) := ⟨p.toNat, by omega⟩
    have hi : i < l.length := by omega
    rw [if_pos h, if_pos h0, if_pos (by omega), rd_at hi]
    have := hb l[i] (List.getElem_mem hi)
    exact ⟨_, _, rfl, by unfold wrap64; omega, by unfold wrap64; omega⟩
  · rw [if_neg h, if_neg (by omega)]
    exact ⟨_, _, rfl, w255 _⟩
theorem pick_ok {l : List Int} (hb : Bytes l) (p c n : Int) (h0 : 0 ≤ p) (h1 : p ≤ 1000000) (hn : n ≤ 200) :
    ∃ a q d, spec_l00Src_pick.f l p c n = some (a, q, d) ∧ 0 ≤ a ∧ (a = 0 ∨ a < n) ∧ p ≤ q ∧ q ≤ p + 1 := by
  unfold spec_l00Src_pick.f
  by_cases g : n ≤ 1
  · exact ⟨0, p, c, by rw [if_pos g], by omega, by omega, by omega, by omega⟩
  · obtain ⟨a, d, h, ha, ha2⟩ := next_ok hb p c h0 h1
    rw [if_neg g, h]
    simp only [Option.bind_some]
    rw [if_neg (by omega), if_neg (by omega)]
    exact ⟨_, _, _, rfl, Int.tmod_nonneg _ ha, Or.inr (Int.tmod_lt_of_pos _ (by omega)), by omega, by omega⟩
theorem among_ok {l : List Int} (hb : Bytes l) (p c : Int) (row : List Int) (h0 : 0 ≤ p) (h1 : p ≤ 1000000) (hr : row.length ≤ 200) (hr0 : 0 < row.length) :
    ∃ a q d, spec_l00Src_among.f l p c row = some (a, q, d) ∧ a ∈ row ∧ p ≤ q ∧ q ≤ p + 1 := by
  obtain ⟨a, q, d, h, ha, hl, hq⟩ := pick_ok hb p c row.length h0 h1 (by omega)
  unfold spec_l00Src_among.f
  rw [h]; simp only [Option.bind_some]
  obtain ⟨i, rfl⟩ : ∃ i : Nat, a = (i : Int) := ⟨a.toNat, by omega⟩
  have hi : i < row.length := by omega
  rw [if_pos ha, if_pos (by omega), rd_at hi]
  exact ⟨_, _, _, rfl, List.getElem_mem hi, hq.1, hq.2⟩
theorem one_ok {l : List Int} (hb : Bytes l) (p c n : Int) (h0 : 0 ≤ p) (h1 : p ≤ 1000000) (hn : n ≤ 200) :
    ∃ b q d, spec_l00Src_one.f l p c n = some (b, q, d) ∧ p ≤ q ∧ q ≤ p + 1 := by
  obtain ⟨a, q, d, h, _, _, hq⟩ := pick_ok hb p c n h0 h1 hn
  unfold spec_l00Src_one.f
  rw [h]
  exact ⟨_, _, _, rfl, hq.1, hq.2⟩
theorem word_ok {l : List Int} (hb : Bytes l) (p c n : Int) (h0 : 0 ≤ p) (h1 : p ≤ 900000) (hn : n ≤ 100) : ∃ s q d, Ev (fun k => spec_l00Src_word.f k l p c n) (s, q, d) ∧ p ≤ q ∧ q ≤ p + 101 := by
  obtain ⟨a, q, d, h, ha, hl, hq1, hq2⟩ := pick_ok hb p c n h0 (by omega) (by omega)
  have loop : ∀ (m : Nat) (xs : List Int) (q d : Int), 0 ≤ q → q + m ≤ 1000000 → xs.length + m ≤ 1000000 → ∃ s q' d', Ev (fun k => spec_l00Src_word.l0 k xs (m : Int) l q d) (s, q', d') ∧ q ≤ q' ∧ q' ≤ q + m := by
    intro m
    induction m with
    | zero =>
      intro xs q d g0 g1 g2
      refine ⟨strOfNums xs, q, d, evsucc ?_, by omega, by omega⟩
      simp only [spec_l00Src_word.l0]
      exact evn (by omega) (evc fun _ => rfl)
    | succ m ih =>
      intro xs q d g0 g1 g2
      obtain ⟨b, e, hn, _, _⟩ := next_ok hb q d g0 (by omega)
      obtain ⟨s, q', d', hs, e1, e2⟩ := ih (xs ++ [b % 256]) (q + 1) e (by omega) (by omega) (by simp; omega)
      refine ⟨s, q', d', evsucc ?_, by omega, by omega⟩
      simp only [spec_l00Src_word.l0]
      refine evp (by omega) (evk hn (evp (by omega) ?_))
      rw [show wrap64 (((m + 1 : Nat) : Int) - 1) = (m : Int) from by unfold wrap64; omega]
      exact hs
  obtain ⟨m, rfl⟩ := Int.eq_ofNat_of_zero_le ha
  obtain ⟨s, q', d', hs, e1, e2⟩ := loop m [] q d (by omega) (by omega) (by simp; omega)
  unfold spec_l00Src_word.f
  exact ⟨s, q', d', evk h hs, by omega, by omega⟩
theorem bytes_ok {l : List Int} (hb : Bytes l) (p c : Int) (h0 : 0 ≤ p) (h1 : p ≤ 800000) : ∃ s q d, Ev (fun k => spec_l16Bytes.f k l p c) (s, q, d) ∧ p ≤ q ∧ q ≤ p + 110 := by
  obtain ⟨b, q, d, ho, hq1, hq2⟩ := one_ok hb p c 12 h0 (by omega) (by omega)
  unfold spec_l16Bytes.f
  cases b with
  | true =>
    obtain ⟨a, q2, d2, h, ha, hl, hq3, hq4⟩ := pick_ok hb q d 3 (by omega) (by omega) (by omega)
    have e : wrap64 (63 + a) = 63 + a := by unfold wrap64; omega
    refine ⟨strOfNums (List.replicate (wrap64 (63 + a)).toNat 0), q2, d2, evk ho (evp rfl (evk h (evp (by rw [e]; omega) (evp (by rw [e]; omega) (evc fun _ => rfl))))), by omega, by omega⟩
  | false =>
    obtain ⟨s, q2, d2, hs, hq3, hq4⟩ := word_ok hb q d 9 (by omega) (by omega) (by omega)
    exact ⟨s, q2, d2, evk ho (evn (by simp) (evb hs (evc fun _ => rfl))), by omega, by omega⟩
theorem op5_ok {l : List Int} (hb : Bytes l) (p c x y : Int) (s : ByteArray) (h0 : 0 ≤ p) (h1 : p ≤ 700000) : ∃ x' y' s' q d, Ev (fun k => spec_l16Op.j5 k l p c x y s) (x', y', s', q, d) ∧ p ≤ q ∧ q ≤ p + 2 := by
  obtain ⟨a, q, d, h, ha, hl, hq1, hq2⟩ := pick_ok hb p c 30 h0 (by omega) (by omega)
  by_cases a0 : a = 0
  · obtain ⟨a', q2, d2, h', _, _, hq3, hq4⟩ := pick_ok hb q d 3 (by omega) (by omega) (by omega)
    refine ⟨x, wrap64 ((wrap64 (y + 1)) - a'), s, q2, d2, evsucc ?_, by omega, by omega⟩
    simp only [spec_l16Op.j5]
    exact evk h (evp a0 (evk h' (evc fun _ => rfl)))
  · by_cases a1 : a = 1
    · obtain ⟨a', q2, d2, h', _, _, hq3, hq4⟩ := pick_ok hb q d 9 (by omega) (by omega) (by omega)
      refine ⟨wrap64 (a' - 1), y, s, q2, d2, evsucc ?_, by omega, by omega⟩
      simp only [spec_l16Op.j5]
      exact evk h (evn a0 (evp a1 (evk h' (evc fun _ => rfl))))
    · by_cases a2 : a = 2
      · refine ⟨x, y, (⟨#[120]⟩ : ByteArray), q, d, evsucc ?_, by omega, by omega⟩
        simp only [spec_l16Op.j5]
        exact evk h (evn a0 (evn a1 (evp a2 (evc fun _ => rfl))))
      · refine ⟨x, y, s, q, d, evsucc ?_, by omega, by omega⟩
        simp only [spec_l16Op.j5]
        exact evk h (evn a0 (evn a1 (evn a2 (evc fun _ => rfl))))
theorem op4_ok {l : List Int} (hb : Bytes l) (g : Bool) (p c x y : Int) (s : ByteArray) (h0 : 0 ≤ p) (h1 : p ≤ 600000) : ∃ x' y' s' q d, Ev (fun k => spec_l16Op.j4 k g l p c x y s) (x', y', s', q, d) ∧ p ≤ q ∧ q ≤ p + 120 := by
  cases g with
  | true =>
    obtain ⟨t, q, d, ht, e1, e2⟩ := bytes_ok hb p c h0 (by omega)
    obtain ⟨x', y', s', q', d', h5, e3, e4⟩ := op5_ok hb q d x y t (by omega) (by omega)
    refine ⟨x', y', s', q', d', evsucc ?_, by omega, by omega⟩
    simp only [spec_l16Op.j4]
    exact evp (by trivial) (evb ht h5)
  | false =>
    obtain ⟨x', y', s', q', d', h5, e3, e4⟩ := op5_ok hb p c x y s (by omega) (by omega)
    refine ⟨x', y', s', q', d', evsucc ?_, by omega, by omega⟩
    simp only [spec_l16Op.j4]
    exact evn (by simp) h5
theorem op3_ok {l : List Int} (hb : Bytes l) (z p c x y : Int) (s : ByteArray) (h0 : 0 ≤ p) (h1 : p ≤ 600000) : ∃ x' y' s' q d, Ev (fun k => spec_l16Op.j3 k z l p c x y s) (x', y', s', q, d) ∧ p ≤ q ∧ q ≤ p + 120 := by
  have key : ∀ g, ∃ x' y' s' q d, Ev (fun k => spec_l16Op.j4 k g l p c x y s) (x', y', s', q, d) ∧ p ≤ q ∧ q ≤ p + 120 := fun g => op4_ok hb g p c x y s h0 h1
  by_cases z2 : z = 2
  · obtain ⟨x', y', s', q, d, h, e⟩ := key true
    refine ⟨x', y', s', q, d, evsucc ?_, e⟩
    simp only [spec_l16Op.j3]
    exact evp z2 h
  · by_cases z3 : z = 3
    · obtain ⟨x', y', s', q, d, h, e⟩ := key true
      refine ⟨x', y', s', q, d, evsucc ?_, e⟩
      simp only [spec_l16Op.j3]
      exact evn z2 (evp z3 h)
    · obtain ⟨x', y', s', q, d, h, e⟩ := key (z == 4)
      refine ⟨x', y', s', q, d, evsucc ?_, e⟩
      simp only [spec_l16Op.j3]
      exact evn z2 (evn z3 h)
theorem op2_ok {l : List Int} (hb : Bytes l) (z : Int) (g : Bool) (p c x y : Int) (s : ByteArray) (h0 : 0 ≤ p) (h1 : p ≤ 500000) : ∃ x' y' s' q d, Ev (fun k => spec_l16Op.j2 k z g l p c x y s) (x', y', s', q, d) ∧ p ≤ q ∧ q ≤ p + 130 := by
  cases g with
  | true =>
    obtain ⟨a, q1, d1, g1, _, _, e1, e2⟩ := pick_ok hb p c 12 h0 (by omega) (by omega)
    obtain ⟨b, q2, d2, g2, e3, e4⟩ := one_ok hb q1 d1 8 (by omega) (by omega) (by omega)
    cases b with
    | true =>
      obtain ⟨a3, q3, d3, g3, _, _, e5, e6⟩ := pick_ok hb q2 d2 3 (by omega) (by omega) (by omega)
      obtain ⟨x', y', s', q', d', h, e7, e8⟩ := op3_ok hb z q3 d3 x (wrap64 (63 + a3)) s (by omega) (by omega)
      refine ⟨x', y', s', q', d', evsucc ?_, by omega, by omega⟩
      simp only [spec_l16Op.j2]
      exact evp (by trivial) (evk g1 (evk g2 (evp (by trivial) (evk g3 h))))
    | false =>
      obtain ⟨x', y', s', q', d', h, e7, e8⟩ := op3_ok hb z q2 d2 x a s (by omega) (by omega)
      refine ⟨x', y', s', q', d', evsucc ?_, by omega, by omega⟩
      simp only [spec_l16Op.j2]
      exact evp (by trivial) (evk g1 (evk g2 (evn (by simp) h)))
  | false =>
    obtain ⟨x', y', s', q', d', h, e7, e8⟩ := op3_ok hb z p c x y s (by omega) (by omega)
    refine ⟨x', y', s', q', d', evsucc ?_, by omega, by omega⟩
    simp only [spec_l16Op.j2]
    exact evn (by simp) h
theorem op_ok {l : List Int} (hb : Bytes l) (p c : Int) (h0 : 0 ≤ p) (h1 : p ≤ 400000) : ∃ x' y' s' q d, Ev (fun k => spec_l16Op.f k l p c 1 0) (x', y', s', q, d) ∧ p ≤ q ∧ q ≤ p + 140 := by
  obtain ⟨z, q, d, hz, _, e1, e2⟩ := among_ok hb p c [1, 2, 3, 4, 5, 6, 2, 4] h0 (by omega) (by decide) (by decide)
  have key : ∀ g, ∃ x' y' s' q' d', Ev (fun k => spec_l16Op.j2 k z g l q d z 0 (⟨#[]⟩ : ByteArray)) (x', y', s', q', d') ∧ q ≤ q' ∧ q' ≤ q + 130 := fun g => op2_ok hb z g q d z 0 _ (by omega) (by omega)
  unfold spec_l16Op.f
  by_cases z3 : z = 3
  · obtain ⟨x', y', s', q', d', h, e3, e4⟩ := key true
    refine ⟨x', y', s', q', d', evk hz (evn (by omega) (evsucc ?_)), by omega, by omega⟩
    simp only [spec_l16Op.j0]
    refine evn (by simp) (evsucc ?_)
    simp only [spec_l16Op.j1]
    exact evp z3 h
  · obtain ⟨x', y', s', q', d', h, e3, e4⟩ := key (z == 5)
    refine ⟨x', y', s', q', d', evk hz (evn (by omega) (evsucc ?_)), by omega, by omega⟩
    simp only [spec_l16Op.j0]
    refine evn (by simp) (evsucc ?_)
    simp only [spec_l16Op.j1]
    exact evn z3 h
theorem apply_none (k : Nat) (b : ByteArray) (t : Bool) (x y : Int) (s : ByteArray) (r : ByteArray × Bool) (hbt : t = false → b = ⟨#[]⟩) (h : impl_Op_apply.j0 (k + 1) b t x y s = some r) : r.2 = false → r.1 = ⟨#[]⟩ := by
  simp only [impl_Op_apply.j0] at h
  by_cases e2 : x = 2
  · rw [if_pos e2] at h; obtain rfl := Option.some.inj h; simp
  · rw [if_neg e2] at h
    by_cases e3 : x = 3
    · rw [if_pos e3] at h
      obtain ⟨q, _, hq⟩ := Option.bind_eq_some_iff.1 h
      obtain rfl := Option.some.inj hq; simp
    · rw [if_neg e3] at h
      by_cases e4 : x = 4
      · rw [if_pos e4] at h
        obtain ⟨q, _, hq⟩ := Option.bind_eq_some_iff.1 h
        obtain rfl := Option.some.inj hq; simp
      · rw [if_neg e4] at h
        by_cases e5 : x = 5
        · rw [if_pos e5] at h
          split at h
          · split at h
            · obtain rfl := Option.some.inj h
              intro ht
              have hb := hbt ht
              subst hb
              apply ByteArray.ext
              simp
            · cases h
          · cases h
        · rw [if_neg e5] at h
          by_cases e6 : x = 6
          · rw [if_pos e6] at h; obtain rfl := Option.some.inj h; simp
          · rw [if_neg e6] at h
            obtain rfl := Option.some.inj h
            exact hbt
theorem applyf_none (x y : Int) (s b : ByteArray) (t : Bool) (r : ByteArray × Bool) (h : impl_Op_apply.f 2 x y s b t = some r) : r.2 = false → r.1 = ⟨#[]⟩ := by
  unfold impl_Op_apply.f at h
  cases t with
  | true => rw [if_pos rfl] at h; exact apply_none 1 b true x y s r (by simp) h
  | false => rw [if_neg (by decide)] at h; exact apply_none 1 _ false x y s r (fun _ => rfl) h
theorem l0_none : ∀ (l : List S60) (b : ByteArray) (t : Bool) (r : ByteArray × Bool), (t = false → b = ⟨#[]⟩) → impl_ApplyOps.l0 b t l = some r → r.2 = false → r.1 = ⟨#[]⟩ := by
  intro l
  induction l with
  | nil => intro b t r hbt h; simp only [impl_ApplyOps.l0] at h; obtain rfl := Option.some.inj h; exact hbt
  | cons o l ih =>
    intro b t r hbt h
    simp only [impl_ApplyOps.l0] at h
    obtain ⟨q, hq, h2⟩ := Option.bind_eq_some_iff.1 h
    exact ih q.1 q.2 r (applyf_none _ _ _ _ _ q hq) h2
theorem l0_app : ∀ (l1 l2 : List S60) (b : ByteArray) (t : Bool), impl_ApplyOps.l0 b t (l1 ++ l2) = (impl_ApplyOps.l0 b t l1).bind fun r => impl_ApplyOps.l0 r.1 r.2 l2 := by
  intro l1
  induction l1 with
  | nil => intro l2 b t; rfl
  | cons o l ih =>
    intro l2 b t
    show (impl_Op_apply.f 2 o.f0 o.f1 o.f2 b t).bind (fun r => impl_ApplyOps.l0 r.1 r.2 (l ++ l2)) = ((impl_Op_apply.f 2 o.f0 o.f1 o.f2 b t).bind fun r => impl_ApplyOps.l0 r.1 r.2 l).bind fun r => impl_ApplyOps.l0 r.1 r.2 l2
    cases impl_Op_apply.f 2 o.f0 o.f1 o.f2 b t with
    | none => rfl
    | some q => simp only [Option.bind_some]; exact ih l2 q.1 q.2
theorem l0_size : ∀ (l : List S60) (b : ByteArray) (t : Bool) (r : ByteArray × Bool), b.size ≤ 64 → (l.any fun x => !impl_ApplyOps.okB x) = false → impl_ApplyOps.l0 b t l = some r → r.1.size ≤ 64 := by
  intro l
  induction l with
  | nil => intro b t r hb _ h; simp only [impl_ApplyOps.l0] at h; obtain rfl := Option.some.inj h; exact hb
  | cons o l ih =>
    intro b t r hb hok h
    simp only [impl_ApplyOps.l0] at h
    rw [List.any_cons, Bool.or_eq_false_iff] at hok
    obtain ⟨v, h1, h2, h3⟩ := opOk_ex o.f0 o.f1 o.f2
    have hv : v = true := by
      have : impl_ApplyOps.okB o = v := by unfold impl_ApplyOps.okB; rw [h2 1]; rfl
      rw [← this]; simpa using hok.1
    subst hv
    obtain ⟨q, _, q2, q3⟩ := step_same b t _ _ _ hb h1 (h3 rfl)
    rw [q2 1] at h
    exact ih q.1 q.2 r q3 hok.2 h
theorem f_ok (b : ByteArray) (t : Bool) (l : List S60) (hl : l.length ≤ 24) (hb : b.size ≤ 64) (hok : (l.any fun x => !impl_ApplyOps.okB x) = false) : impl_ApplyOps.f b t l = impl_ApplyOps.l0 (if t = true then b else (⟨#[]⟩ : ByteArray)) t l := by
  have hall : (l.all fun x => (impl_OpOk.f 2 1 0 x.f0 x.f1 x.f2).isSome) = true := by
    rw [List.all_eq_true]
    intro x _
    obtain ⟨v, _, q, _⟩ := opOk_ex x.f0 x.f1 x.f2
    rw [q 1]; rfl
  unfold impl_ApplyOps.f
  rw [if_pos ⟨hl, hb⟩, if_pos hall, if_neg (by rw [hok]; decide)]
theorem start_size (b : ByteArray) (t : Bool) (hb : b.size ≤ 64) : (if t = true then b else (⟨#[]⟩ : ByteArray)).size ≤ 64 := by
  cases t with
  | true => exact hb
  | false => exact (by decide : (⟨#[]⟩ : ByteArray).size ≤ 64)
theorem start_none (b : ByteArray) (t : Bool) : t = false → (if t = true then b else (⟨#[]⟩ : ByteArray)) = ⟨#[]⟩ := fun h => by subst h; rfl
theorem ops_none (b : ByteArray) (t : Bool) (m : List S60) (r : ByteArray × Bool) (h : impl_ApplyOps.f b t m = some r) : (r.2 = false → r.1 = ⟨#[]⟩) ∧ r.1.size ≤ 64 := by
  by_cases hc : m.length ≤ 24 ∧ b.size ≤ 64
  · by_cases hok : (m.any fun x => !impl_ApplyOps.okB x) = false
    · rw [f_ok b t m hc.1 hc.2 hok] at h
      exact ⟨l0_none m _ t r (start_none b t) h, l0_size m _ t r (start_size b t hc.2) hok h⟩
    · unfold impl_ApplyOps.f at h
      rw [if_pos hc] at h
      split at h
      · rw [if_pos (by simpa using hok)] at h
        obtain rfl := Option.some.inj h
        exact ⟨fun _ => rfl, by decide⟩
      · cases h
  · unfold impl_ApplyOps.f at h
    rw [if_neg hc] at h
    obtain rfl := Option.some.inj h
    exact ⟨fun _ => rfl, by decide⟩
theorem split_same (b : ByteArray) (t : Bool) (m : List S60) (k : Nat) (r : ByteArray × Bool) (hm : m.length ≤ 24) (hb : b.size ≤ 64) (hok : (m.any fun x => !impl_ApplyOps.okB x) = false) (h : impl_ApplyOps.f b t m = some r) :
    ∃ c : ByteArray × Bool, impl_ApplyOps.f b t (m.take k) = some c ∧ impl_ApplyOps.f c.1 c.2 (m.drop k) = some r := by
  have ho := hok
  rw [← List.take_append_drop k m, List.any_append, Bool.or_eq_false_iff] at ho
  rw [f_ok b t m hm hb hok, ← List.take_append_drop k m, l0_app] at h
  obtain ⟨c, hc, h2⟩ := Option.bind_eq_some_iff.1 h
  have hs := l0_size _ _ t c (start_size b t hb) ho.1 hc
  have hn := l0_none _ _ t c (start_none b t) hc
  refine ⟨c, ?_, ?_⟩
  · rw [f_ok b t _ (by simp; omega) hb ho.1]; exact hc
  · rw [f_ok c.1 c.2 _ (by simp; omega) hs ho.2]
    cases hct : c.2 with
    | true => rw [hct] at h2; simpa using h2
    | false => rw [hct] at h2; rw [hn hct] at h2; simpa using h2
/-- A number that is one byte is read back. -/
theorem get_first (s : ByteArray) (c : Nat) (h0 : 0 < s.size) (hc : bt s 0 = (c : Int)) (h1 : c < 128) : Ev (fun k => impl_GetVar.f k s) ((c : Int), 1, true) := by
  have w1 : wrap64 (bt s 0) = (c : Int) := by rw [hc]; exact w64n c (by omega)
  have w2 : wrap64 (7 * 0) = 0 := by unfold wrap64; omega
  have w3 : Int.tmod (c : Int) 128 = (c : Int) := by rw [Int.tmod_eq_emod_of_nonneg (by omega)]; omega
  have w4 : Go.bits .or .i64 0 (shl .i64 (c : Int) 0) = (c : Int) := by
    have := or_low 0 c 0 (by decide) (by omega) (by omega)
    simpa using this
  have w5 : wrap64 (0 + 1) = 1 := by unfold wrap64; omega
  unfold impl_GetVar.f
  apply evsucc
  simp only [impl_GetVar.l0]
  refine evp (by omega) (evsucc ?_)
  simp only [impl_GetVar.j1, w1, w2, w3, w4, w5]
  exact evp (decide_eq_true (by omega)) (evp (by omega) (evp (by omega) (evp (by omega) (evp (by omega) (evn (by omega) (evn (by omega) (evc fun _ => rfl)))))))
theorem put_one (n : Int) (h0 : 0 ≤ n) (h1 : n ≤ 127) : Ev (fun k => impl_PutVar.f k n) (strOfNums [n % 256]) := by
  unfold impl_PutVar.f
  refine evk (between_eq _ _ _) (evp (decide_eq_true ⟨h0, by omega⟩) (evsucc ?_))
  simp only [impl_PutVar.l0]
  exact evn (by omega) (evp (by simp) (evc fun _ => rfl))
theorem one_list (n : Int) (h0 : 0 ≤ n) (h1 : n ≤ 127) : ∃ c : UInt8, (strOfNums [n % 256]).data.toList = [c] ∧ (c.toNat : Int) = n := by
  refine ⟨UInt8.ofNat (n % 256).toNat, rfl, ?_⟩
  have : (UInt8.ofNat (n % 256).toNat).toNat = (n % 256).toNat % 256 := by simp
  rw [this]
  omega
theorem bt_zero (s : ByteArray) (c : UInt8) (L : List UInt8) (h : s.data.toList = c :: L) : bt s 0 = (c.toNat : Int) ∧ 0 < s.size := by
  have hl : s.data.toList.length = s.size := by simp
  have h0 : 0 < s.size := by rw [← hl, h]; simp
  refine ⟨?_, h0⟩
  unfold bt
  rw [dif_pos (by simpa using h0)]
  have e : s[(0 : Int).toNat]'(by simpa using h0) = s.data.toList[0]'(by rw [hl]; exact h0) := by
    rw [Array.getElem_toList]; rfl
  rw [e]
  simp [h]
theorem drop_list (s : ByteArray) (i : Nat) : (s.extract i s.size).data.toList = s.data.toList.drop i := by
  have hl : s.data.toList.length = s.size := by simp
  have : (s.extract i s.size).data.toList = (s.data.toList.drop i).take (s.size - i) := by simp
  rw [this, List.take_of_length_le (by simp)]
theorem num_first (s : ByteArray) (c : UInt8) (L : List UInt8) (h : s.data.toList = c :: L) (hc : c.toNat < 128) : Ev (fun k => impl_binary_number.f k s false) ((c.toNat : Int), s.extract 1 s.size, false) := by
  obtain ⟨hb, h0⟩ := bt_zero s c L h
  unfold impl_binary_number.f
  exact evb (get_first s c.toNat h0 hb hc) (evp rfl (evp (by simp) (evp (by simp only; omega) (evc fun _ => rfl))))
theorem text_first (s : ByteArray) (c : UInt8) (S L : List UInt8) (h : s.data.toList = c :: (S ++ L)) (hc : c.toNat < 128) (hS : S.length = c.toNat) (hsz : s.size ≤ 2000000) : ∃ t u : ByteArray, Ev (fun k => impl_binary_text.f k s false) (t, u, false) ∧ t.data.toList = S ∧ u.data.toList = L := by
  obtain ⟨hb, h0⟩ := bt_zero s c _ h
  have hl : s.data.toList.length = s.size := by simp
  have hz : s.size = 1 + S.length + L.length := by rw [← hl, h]; simp; omega
  have w1 : wrap64 ((s.size : Int) - 1) = (s.size : Int) - 1 := by unfold wrap64; omega
  have w2 : wrap64 (1 + (c.toNat : Int)) = ((1 + c.toNat : Nat) : Int) := by unfold wrap64; omega
  have hg : Ev (fun k => impl_GetText.f k s) (s.extract 1 (1 + c.toNat), ((1 + c.toNat : Nat) : Int), true) := by
    unfold impl_GetText.f
    refine evb (get_first s c.toNat h0 hb hc) (evp rfl (evn (by simp only; rw [w1]; omega) (evp (by simp) (evp (by simp only; rw [w2]; omega) (evp (by simp only; rw [w2]; omega) (evc fun _ => ?_))))))
    simp only [w2, Int.toNat_natCast]
    rfl
  refine ⟨s.extract 1 (1 + c.toNat), s.extract (1 + c.toNat) s.size, ?_, ?_, ?_⟩
  · unfold impl_binary_text.f
    refine evb hg (evp rfl (evp (by simp only; omega) (evp (by simp only; omega) (evc fun _ => ?_))))
    simp only [Int.toNat_natCast]
  · have : (s.extract 1 (1 + c.toNat)).data.toList = (s.data.toList.drop 1).take (1 + c.toNat - 1) := by simp
    rw [this, h, show 1 + c.toNat - 1 = S.length from by omega]
    simp
  · rw [drop_list, h, show 1 + c.toNat = S.length + 1 from by omega]
    simp
theorem putget (x y : Int) (s : ByteArray) : ∃ t : ByteArray, Ev (fun k => impl_PutOp.f k x y s) t ∧ (t.toList = [] ∨ (t.toList ≠ [] ∧ t.size ≤ 1000 ∧ Ev (fun k => impl_GetOp.f k (t ++ (⟨#[122, 122]⟩ : ByteArray))) (x, y, s, (t.size : Int), true))) := by
  obtain ⟨v, _, o2, hbd⟩ := opOk_ex x y s
  have v2 : Ev (fun k => impl_OpOk.f k 1 0 x y s) v := evsucc (evc o2)
  unfold impl_PutOp.f impl_plainCode.f
  simp only [Option.bind_some]
  cases v with
  | false => exact ⟨⟨#[]⟩, evb v2 (evn (by simp) (evc fun _ => rfl)), .inl (by rw [Lib.toList_data])⟩
  | true =>
    obtain ⟨hx1, hx6, hy0, hy1, hs⟩ := hbd rfl
    obtain ⟨cx, ex, nx⟩ := one_list x (by omega) (by omega)
    obtain ⟨cy, ey, ny⟩ := one_list y hy0 (by omega)
    obtain ⟨cz, ez, nz⟩ := one_list (s.size : Int) (by omega) (by omega)
    have px := put_one x (by omega) (by omega)
    have py := put_one y hy0 (by omega)
    have pz := put_one (s.size : Int) (by omega) (by omega)
    have sz1 : ∀ (b : ByteArray) (c : UInt8), b.data.toList = [c] → b.size = 1 := fun b c h => by
      have hl : b.data.toList.length = b.size := by simp
      rw [← hl, h]; rfl
    generalize strOfNums [x % 256] = X at ex px
    generalize strOfNums [y % 256] = Y at ey py
    generalize strOfNums [(s.size : Int) % 256] = Z at ez pz
    have lX := sz1 X cx ex
    have lY := sz1 Y cy ey
    have lZ := sz1 Z cz ez
    have hsl : s.data.toList.length = s.size := by simp
    have ht : (X ++ Y ++ (Z ++ s)).data.toList = cx :: cy :: cz :: s.data.toList := by simp [ex, ey, ez, ← Array.toList_inj, Array.append_assoc]
    have hts : (X ++ Y ++ (Z ++ s)).size = 3 + s.size := by simp [lX, lY, lZ]; omega
    refine ⟨X ++ Y ++ (Z ++ s), evb v2 (evp rfl (evb px (evb py (evp (by omega) (evb (a := Z ++ s) ?_ (evp (by simp [lX, lY, lZ]; omega) (evc fun _ => rfl))))))), .inr ⟨by rw [Lib.toList_data, ht]; simp, by omega, ?_⟩⟩
    · unfold impl_PutText.f
      exact evb pz (evp (by omega) (evc fun _ => rfl))
    · generalize X ++ Y ++ (Z ++ s) = t at ht hts ⊢
      have hu : (t ++ (⟨#[122, 122]⟩ : ByteArray)).data.toList = cx :: cy :: cz :: (s.data.toList ++ [122, 122]) := by simp [ht]
      have hus : (t ++ (⟨#[122, 122]⟩ : ByteArray)).size = t.size + 2 := by rw [ByteArray.size_append]; rfl
      generalize t ++ (⟨#[122, 122]⟩ : ByteArray) = u at hu hus ⊢
      have g1 := num_first u cx _ hu (by omega)
      have h2 : (u.extract 1 u.size).data.toList = cy :: cz :: (s.data.toList ++ [122, 122]) := by rw [drop_list, hu]; rfl
      have g2 := num_first _ cy _ h2 (by omega)
      have h3 : ((u.extract 1 u.size).extract 1 (u.extract 1 u.size).size).data.toList = cz :: (s.data.toList ++ [122, 122]) := by rw [drop_list, h2]; rfl
      obtain ⟨t', u', g3, e1, e2⟩ := text_first _ cz _ _ h3 (by omega) (by omega) (by simp only [ByteArray.size_extract]; omega)
      obtain rfl : t' = s := by
        apply ByteArray.ext
        exact Array.toList_inj.1 e1
      have hu' : u'.size = 2 := by
        have hl : u'.data.toList.length = u'.size := by simp
        rw [← hl, e2]; rfl
      rw [nx] at g1
      rw [ny] at g2
      unfold impl_GetOp.f impl_plainCode.f
      simp only [Option.bind_some]
      refine evb g1 (evb g2 (evb g3 (evn (by simp) (evb v2 (evp rfl (evc fun _ => ?_))))))
      simp only
      rw [hus, hu', show wrap64 (((t.size + 2 : Nat) : Int) - ((2 : Nat) : Int)) = (t.size : Int) from by unfold wrap64; omega]
theorem drawOps_loop {l : List Int} (hb : Bytes l) (g : Bool) (b : ByteArray) (N : Nat) (hN : N ≤ 25) : ∀ (d i : Nat) (acc : List S60) (p c : Int), i + d = N → acc.length ≤ i → 0 ≤ p → p + 140 * d ≤ 400000 →
    ∃ m, Ev (fun k => spec_DrawApplyOps.l0 k g b acc (N : Int) (i : Int) l p c) (b, g, m) ∧ m.length ≤ 25 := by
  intro d
  induction d with
  | zero =>
    intro i acc p c h ha h0 h1
    refine ⟨acc, evsucc ?_, by omega⟩
    simp only [spec_DrawApplyOps.l0]
    exact evn (by omega) (evc fun _ => rfl)
  | succ d ih =>
    intro i acc p c h ha h0 h1
    obtain ⟨x, y, s, q, e, ho, q1, q2⟩ := op_ok hb p c h0 (by omega)
    obtain ⟨m, hm, hml⟩ := ih (i + 1) (acc ++ [⟨x, y, s⟩]) q e (by omega) (by simp; omega) (by omega) (by omega)
    refine ⟨m, evsucc ?_, hml⟩
    simp only [spec_DrawApplyOps.l0, spec_l16Plain.f, Option.bind_some]
    rw [show wrap64 ((i : Int) + 1) = ((i + 1 : Nat) : Int) from by unfold wrap64; omega]
    exact evp (by omega) (evb ho (evp (by omega) hm))
theorem drawOps_ok {l : List Int} (hb : Bytes l) : ∃ b t m, Ev (fun k => spec_DrawApplyOps.f k l) (b, t, m) ∧ m.length ≤ 25 := by
  obtain ⟨g, q, d, hg, e1, e2⟩ := one_ok hb 0 0 4 (by omega) (by omega) (by omega)
  obtain ⟨b, q2, d2, hs, e3, e4⟩ := bytes_ok hb q d (by omega) (by omega)
  obtain ⟨a, q3, d3, ha, a0, al, e5, e6⟩ := pick_ok hb q2 d2 6 (by omega) (by omega) (by omega)
  obtain ⟨g2, q4, d4, hg2, e7, e8⟩ := one_ok hb q3 d3 15 (by omega) (by omega) (by omega)
  have key : ∀ (N : Nat) (q' d' : Int), N ≤ 25 → 0 ≤ q' → q' ≤ 1000 → ∃ m, Ev (fun k => spec_DrawApplyOps.j0 k (!g) b [] (N : Int) l q' d') (b, !g, m) ∧ m.length ≤ 25 := fun N q' d' hN h0 h1 => by
    obtain ⟨m, hm, hml⟩ := drawOps_loop hb (!g) b N hN N 0 [] q' d' (by omega) (by simp) h0 (by omega)
    refine ⟨m, evsucc ?_, hml⟩
    simp only [spec_DrawApplyOps.j0]
    exact hm
  unfold spec_DrawApplyOps.f spec_l00From.f
  simp only [Option.bind_some]
  cases g2 with
  | true =>
    obtain ⟨a2, q5, d5, ha2, a20, a2l, e9, e10⟩ := pick_ok hb q4 d4 2 (by omega) (by omega) (by omega)
    have hw : wrap64 (24 + a2) = ((24 + a2.toNat : Nat) : Int) := by unfold wrap64; omega
    obtain ⟨m, hm, hml⟩ := key (24 + a2.toNat) q5 d5 (by omega) (by omega) (by omega)
    refine ⟨b, !g, m, evk hg (evb hs (evk ha (evk hg2 (evp rfl (evk ha2 ?_))))), hml⟩
    simp only [hw]
    exact hm
  | false =>
    obtain ⟨n, rfl⟩ := Int.eq_ofNat_of_zero_le a0
    obtain ⟨m, hm, hml⟩ := key n q4 d4 (by omega) (by omega) (by omega)
    exact ⟨b, !g, m, evk hg (evb hs (evk ha (evk hg2 (evn (by simp) hm)))), hml⟩
theorem drawPut_ok {l : List Int} (hb : Bytes l) : ∃ x y s, Ev (fun k => spec_DrawPutOp.f k l) (x, y, s) := by
  obtain ⟨x, y, s, q, d, ho, _, _⟩ := op_ok hb 0 0 (by omega) (by omega)
  refine ⟨x, y, s, ?_⟩
  unfold spec_DrawPutOp.f spec_l00From.f spec_l16Plain.f
  simp only [Option.bind_some]
  exact evb ho (evc fun _ => rfl)
theorem at_ok {l : List Int} (hb : Bytes l) (n : Nat) (hn : n ≤ 25) : ∃ k : Nat, laws_b10At.f l 0 (wrap64 ((n : Int) + 1)) = some (k : Int) ∧ k ≤ n := by
  have hw : wrap64 ((n : Int) + 1) = (n : Int) + 1 := by unfold wrap64; omega
  unfold laws_b10At.f
  rw [hw]
  by_cases h : (n : Int) + 1 ≤ 1
  · exact ⟨0, by rw [if_pos h]; rfl, by omega⟩
  · rw [if_neg h]
    have key : ∀ v : Int, 0 ≤ v → ∃ k : Nat, some (Int.tmod v ((n : Int) + 1)) = some (k : Int) ∧ k ≤ n := fun v hv => by
      have h1 := Int.tmod_nonneg ((n : Int) + 1) hv
      have h2 := Int.tmod_lt_of_pos v (show (0 : Int) < (n : Int) + 1 by omega)
      exact ⟨(Int.tmod v ((n : Int) + 1)).toNat, by congr 1; omega, by omega⟩
    by_cases h0 : (0 : Int) < (l.length : Int)
    · rw [if_pos h0, if_pos (by omega), if_neg (by omega)]
      have hi : 0 < l.length := by omega
      have hr : rd l 0 = l[0] := rd_at (i := 0) hi
      have := hb l[0] (List.getElem_mem hi)
      rw [hr]
      exact key _ (by unfold wrap64; omega)
    · rw [if_neg h0, if_neg (by omega)]
      exact key _ (by unfold wrap64; omega)
theorem ops_scan (l1 : List Int) (hb1 : Bytes l1) (b : ByteArray) (t : Bool) (m : List S60) (r : ByteArray × Bool) (hr : impl_ApplyOps.f b t m = some r) (hm : m.length ≤ 8796093022208) : ∀ (d i : Nat), i + d = m.length → ((m.take i).any fun x => !impl_ApplyOps.okB x) = false →
    Ev (fun k => laws_FnOps.l0 k l1 b t m r.1 r.2 (i : Int)) true := by
  intro d
  induction d with
  | zero =>
    intro i h hok
    rw [List.take_of_length_le (by omega)] at hok
    apply evsucc
    simp only [laws_FnOps.l0]
    refine evn (by omega) ?_
    have done : ∀ c : Bool, c = true → Ev (fun k => laws_FnOps.j3 k l1 b t m r.1 r.2 c) true := fun c hc => by
      subst hc
      apply evsucc
      simp only [laws_FnOps.j3]
      exact evp (by trivial) (evc fun _ => rfl)
    by_cases h24 : (m.length : Int) > 24
    · exact evp h24 (done true rfl)
    · by_cases h64 : (b.size : Int) > 64
      · exact evn h24 (done _ (decide_eq_true h64))
      · refine evn h24 (evsucc ?_)
        obtain ⟨k, hk, hkm⟩ := at_ok hb1 m.length (by omega)
        obtain ⟨c, c1, c2⟩ := split_same b t m k r (by omega) (by omega) hok hr
        simp only [laws_FnOps.j3]
        refine evn (by rw [decide_eq_false h64]; simp) (evk hk (evp (by omega) (evp (by omega) ?_)))
        rw [Int.toNat_natCast]
        exact evk c1 (evk c2 (evp rfl (evc fun _ => by simp)))
  | succ d ih =>
    intro i h hok
    have hi : i < m.length := by omega
    obtain ⟨v, o1, o2, _⟩ := opOk_ex m[i].f0 m[i].f1 m[i].f2
    have hv : impl_ApplyOps.okB m[i] = v := by unfold impl_ApplyOps.okB; rw [o2 1]; rfl
    have v1 : Ev (fun k => spec_OpOk.f k 1 0 m[i].f0 m[i].f1 m[i].f2) v := evsucc (evc o1)
    apply evsucc
    simp only [laws_FnOps.l0]
    rw [rdO_at hi, wsucc hi (by omega)]
    refine evp (by omega) (evp (by omega) (evb v1 ?_))
    cases v with
    | false => exact evn (by simp) (evc fun _ => rfl)
    | true =>
      refine evp (by trivial) (ih (i + 1) (by omega) ?_)
      rw [take_at hi, List.any_append, hok]
      simp [hv]
theorem FnOps : Stmt.FnOps.PureS := by
  intro l0 l1 ⟨_, _, hw0⟩ ⟨_, _, hw1⟩
  have hb0 : Bytes l0 := fun x hx => Go.bounds_u8 (hw0 x hx)
  have hb1 : Bytes l1 := fun x hx => Go.bounds_u8 (hw1 x hx)
  obtain ⟨b, t, m, hd, hml⟩ := drawOps_ok hb0
  obtain ⟨x, y, s, hp⟩ := drawPut_ok hb1
  obtain ⟨r, h1, h2⟩ := applyOps_same b t m
  obtain ⟨u, hu, hg⟩ := putget x y s
  obtain ⟨hnone, hsz⟩ := ops_none b t m r h2
  apply ev_ex
  unfold laws_FnOps.f
  obtain ⟨g, hgb⟩ : ∃ b, laws_b10Long.f l0 l1 = some b := by unfold laws_b10Long.f; split <;> exact ⟨_, rfl⟩
  refine evk hgb ?_
  cases g with
  | true => exact evp (by trivial) (evc fun _ => rfl)
  | false =>
    have hm : m.length ≤ 8796093022208 := by omega
    have hj1 : Ev (fun k => laws_FnOps.j1 k l1 b t m r.1 r.2) true := by
      apply evsucc
      simp only [laws_FnOps.j1]
      exact ops_scan l1 hb1 b t m r h2 hm m.length 0 (by omega) (by simp)
    have hj0 : ∀ c : Bool, c = false → Ev (fun k => laws_FnOps.j0 k l1 b t m r.1 r.2 c) true := fun c hc => by
      subst hc
      apply evsucc
      simp only [laws_FnOps.j0]
      refine evn (by simp) (evb hp (evb hu ?_))
      rcases hg with hg | ⟨hg0, hg1, hg⟩
      · exact evp hg hj1
      · refine evn hg0 (evp (by omega) (evb hg (evp rfl (evn (by simp) (evp rfl hj1)))))
    refine evn (by simp) (evb hd (evk h2 (evb h1 (evp rfl (evn (by simp) (evn (by show ¬ ((r.1.size : Int) > 64); omega) ?_))))))
    cases hr : r.2 with
    | true => exact evp (by simp [hr]) (by rw [hr] at hj0; simpa [hr] using hj0 false rfl)
    | false =>
      refine evn (by simp [hr]) (by have := hj0 (r.1.toList != ([] : List UInt8)) (by rw [hnone hr, Lib.toList_data]; rfl); simpa [hr] using this)
end Go.Proofs.Ythphhklbliambaa.Pure
