/- The program's ApplyOps and the reference's give one body at every row of operations, and the row is left as it was. The row: any within the reach. -/
import Derived.Test.YthphhklbliambaaStmtFnExactApplyOps
import Derived.Lib.Strings
set_option linter.unusedSimpArgs false
set_option linter.unusedVariables false
namespace Go.Proofs.Ythphhklbliambaa.Pure
open Go.RowKit Go.Proofs.Ythphhklbliambaa.MFnExactApplyOps Go.Proofs.YthphhklbliambaaW.PrintWords Go.Proofs.YthphhklbliambaaW.PrintLast
theorem evc {α : Type} {g : Nat → Option α} {r : α} (h : ∀ k, g k = some r) : Ev g r := ⟨0, fun k _ => h k⟩
theorem evsucc {α : Type} {g : Nat → Option α} {r : α} (h : Ev (fun k => g (k + 1)) r) : Ev g r := by
  obtain ⟨K, hK⟩ := h
  refine ⟨K + 1, fun k hk => ?_⟩
  obtain ⟨k, rfl⟩ : ∃ m, k = m + 1 := ⟨k - 1, by omega⟩
  exact hK k (by omega)
theorem evp {α : Type} {c : Prop} [Decidable c] {g f : Nat → Option α} {r : α} (hc : c) (h : Ev g r) : Ev (fun k => if c then g k else f k) r := by
  simp only [if_pos hc]; exact h
theorem evn {α : Type} {c : Prop} [Decidable c] {g f : Nat → Option α} {r : α} (hc : ¬ c) (h : Ev f r) : Ev (fun k => if c then g k else f k) r := by
  simp only [if_neg hc]; exact h
theorem evb {α β : Type} {g : Nat → Option α} {f : Nat → α → Option β} {a : α} {r : β} (h : Ev g a) (k : Ev (fun n => f n a) r) : Ev (fun n => (g n).bind (f n)) r := Ev.bind h k
theorem evk {α β : Type} {g : Option α} {f : Nat → α → Option β} {a : α} {r : β} (h : g = some a) (k : Ev (fun n => f n a) r) : Ev (fun n => g.bind (f n)) r := by subst h; exact k
theorem ev_ex {α : Type} {g : Nat → Option α} {r : α} (h : Ev g r) : ∃ k, g k = some r := by obtain ⟨K, hK⟩ := h; exact ⟨K, hK K (Nat.le_refl _)⟩
theorem wsucc {i n : Nat} (h : i < n) (hn : n ≤ 140737488351232) : wrap64 ((i : Int) + 1) = ((i + 1 : Nat) : Int) := by unfold wrap64; omega
theorem rd_at {l : List Int} {i : Nat} (h : i < l.length) : rd l (i : Int) = l[i] := by
  simp [rd, List.getD_eq_getElem?_getD, List.getElem?_eq_getElem h]
theorem drop_at {α : Type} {l : List α} {i : Nat} (h : i < l.length) : l.drop i = l[i] :: l.drop (i + 1) := List.drop_eq_getElem_cons h
theorem take_at {α : Type} {l : List α} {i : Nat} (h : i < l.length) : l.take (i + 1) = l.take i ++ [l[i]] := by
  rw [List.take_succ_eq_append_getElem h]
/-- Every element of a row taken over into a row made ahead. -/
theorem to_rows {α β : Type} (L : Nat → List β → Int → Option (List β)) (conv : α → β) (xs : List α)
    (hs : ∀ (i : Nat) (ys : List β) (h : i < xs.length), ys.length = xs.length → ∀ r, Ev (fun k => L k (ys.set i (conv xs[i])) ((i + 1 : Nat) : Int)) r → Ev (fun k => L k ys (i : Int)) r)
    (he : ∀ ys, Ev (fun k => L k ys (xs.length : Int)) ys) : ∀ (d i : Nat) (ys : List β), i + d = xs.length → ys.length = xs.length → ys.take i = (xs.take i).map conv → Ev (fun k => L k ys (i : Int)) (xs.map conv) := by
  intro d
  induction d with
  | zero =>
    intro i ys h hl ht
    obtain rfl : i = xs.length := by omega
    rw [← hl, List.take_length, hl, List.take_length] at ht
    subst ht
    exact he _
  | succ d ih =>
    intro i ys h hl ht
    have hi : i < xs.length := by omega
    refine hs i ys hi hl _ (ih (i + 1) _ (by omega) (by simpa using hl) ?_)
    rw [take_at (by simp; omega), take_at hi, List.take_set_of_le (by omega), ht, List.map_append]
    simp only [List.getElem_set_self, List.map_cons, List.map_nil]
/-- A loop that asks something of each element, and goes on. -/
theorem on_rows {β : Type} {n : Nat} (L : Nat → Int → Option β) (r : β) (hs : ∀ i : Nat, i < n → Ev (fun k => L k ((i + 1 : Nat) : Int)) r → Ev (fun k => L k (i : Int)) r) (he : Ev (fun k => L k (n : Int)) r) :
    ∀ (d i : Nat), i + d = n → Ev (fun k => L k (i : Int)) r := by
  intro d
  induction d with
  | zero => intro i h; obtain rfl : i = n := by omega
            exact he
  | succ d ih => intro i h; exact hs i (by omega) (ih (i + 1) (by omega))
theorem exb {α β : Type} {g : Nat → Option α} {f : Nat → α → Option β} (h : ∃ a, Ev g a) (k : ∀ a, ∃ r, Ev (fun n => f n a) r) : ∃ r, Ev (fun n => (g n).bind (f n)) r := by
  obtain ⟨a, ha⟩ := h
  obtain ⟨r, hr⟩ := k a
  exact ⟨r, evb ha hr⟩
theorem exk {α β : Type} {g : Option α} {f : Nat → α → Option β} (h : ∃ a, g = some a) (k : ∀ a, ∃ r, Ev (fun n => f n a) r) : ∃ r, Ev (fun n => g.bind (f n)) r := by
  obtain ⟨a, rfl⟩ := h
  exact k a
theorem exi {α : Type} {c : Prop} [Decidable c] {g f : Nat → Option α} (h1 : ∃ r, Ev g r) (h2 : ∃ r, Ev f r) : ∃ r, Ev (fun k => if c then g k else f k) r := by
  by_cases h : c
  · simp only [if_pos h]; exact h1
  · simp only [if_neg h]; exact h2
theorem exp_ {α : Type} {c : Prop} [Decidable c] {g f : Nat → Option α} (h : c) (h1 : ∃ r, Ev g r) : ∃ r, Ev (fun k => if c then g k else f k) r := by
  simp only [if_pos h]; exact h1
theorem exn_ {α : Type} {c : Prop} [Decidable c] {g f : Nat → Option α} (h : ¬ c) (h2 : ∃ r, Ev f r) : ∃ r, Ev (fun k => if c then g k else f k) r := by
  simp only [if_neg h]; exact h2
theorem exc {α : Type} (r : α) : ∃ q : α, Ev (fun _ : Nat => some r) q := ⟨r, evc fun _ => rfl⟩
theorem exs {α : Type} {g : Nat → Option α} (h : ∃ r, Ev (fun k => g (k + 1)) r) : ∃ r, Ev g r := by
  obtain ⟨r, hr⟩ := h
  exact ⟨r, evsucc hr⟩
/-- A loop over a row, whatever it carries, ends. -/
theorem ex_rows {σ β : Type} {n : Nat} (L : Nat → σ → Int → Option β) (hs : ∀ (i : Nat) (s : σ), i < n → (∀ s', ∃ r, Ev (fun k => L k s' ((i + 1 : Nat) : Int)) r) → ∃ r, Ev (fun k => L k s (i : Int)) r) (he : ∀ s, ∃ r, Ev (fun k => L k s (n : Int)) r) :
    ∀ (d i : Nat) (s : σ), i + d = n → ∃ r, Ev (fun k => L k s (i : Int)) r := by
  intro d
  induction d with
  | zero => intro i s h; obtain rfl : i = n := by omega
            exact he s
  | succ d ih => intro i s h; exact hs i s (by omega) (fun s' => ih (i + 1) s' (by omega))
theorem rdStr_at {l : List ByteArray} {i : Nat} (h : i < l.length) : rdOf ByteArray.empty l (i : Int) = l[i] := by
  simp [rdOf, List.getD_eq_getElem?_getD, List.getElem?_eq_getElem h]
theorem exv {α β : Type} {g : Option α} {f : Nat → α → Option β} {a : α} (h : g = some a) (k : ∃ r, Ev (fun n => f n a) r) : ∃ r, Ev (fun n => g.bind (f n)) r := by
  subst h
  exact k
theorem between_eq (a b c : Int) : impl_between.f a b c = some (decide (b ≤ a ∧ a ≤ c)) := by
  unfold impl_between.f
  by_cases h : a ≥ b
  · have h' : b ≤ a := h
    simp [h, h']
  · have h' : ¬ b ≤ a := h
    simp [h, h']
theorem l00In_eq (a b c : Int) : spec_l00In.f a b c = some (decide (b ≤ a ∧ a ≤ c)) := by
  unfold spec_l00In.f
  by_cases h : a ≥ b
  · have h' : b ≤ a := h
    simp [h, h']
  · have h' : ¬ b ≤ a := h
    simp [h, h']
def codeB (a b : Int) : Bool := decide (1 ≤ a ∧ a ≤ 4) && decide (0 ≤ b ∧ b ≤ 3)
theorem codeOk_impl (a b : Int) : impl_CodeOk.f a b = some (codeB a b) := by
  unfold impl_CodeOk.f codeB
  simp only [between_eq, Option.bind_some]
  by_cases h : 1 ≤ a ∧ a ≤ 4 <;> simp [h]
theorem codeOk_spec (a b : Int) : spec_CodeOk.f a b = some (codeB a b) := by
  unfold spec_CodeOk.f spec_l04Code.f codeB
  simp only [l00In_eq, Option.bind_some]
  by_cases h : 1 ≤ a ∧ a ≤ 4 <;> simp [h]
theorem opOk_same (k : Nat) (a b x y : Int) (s : ByteArray) : ∃ v, spec_OpOk.f (k + 1) a b x y s = some v ∧ impl_OpOk.f (k + 1) a b x y s = some v := by
  unfold spec_OpOk.f impl_OpOk.f
  simp only [codeOk_impl, codeOk_spec, l00In_eq, Option.bind_some, spec_OpOk.j0, impl_OpOk.j0, between_eq]
  cases codeB a b with
  | false => exact ⟨false, by simp⟩
  | true =>
    simp only [if_true]
    by_cases h1 : x = 1
    · subst h1; by_cases hy : y = 0 <;> simp [hy]
    · by_cases h6 : x = 6
      · subst h6; by_cases hy : y = 0 <;> simp [hy]
      · have e1 : (x == 1) = false := by simp [h1]
        have e6 : (x == 6) = false := by simp [h6]
        simp only [if_neg h1, e6, Bool.false_eq_true, if_false]
        by_cases h2 : x = 2
        · subst h2; by_cases hy : y = 0 <;> simp [hy]
        · by_cases h3 : x = 3
          · subst h3; by_cases ha : a = 1 <;> by_cases hr : 0 ≤ y ∧ y ≤ 64 <;> simp [ha, hr]
          · by_cases h4 : x = 4
            · subst h4; by_cases ha : a = 1 <;> by_cases hy : y = 0 <;> simp [ha, hy]
            · by_cases h5 : x = 5
              · subst h5; by_cases ha : a = 1 <;> by_cases hr : 0 ≤ y ∧ y ≤ 64 <;> simp [ha, hr]
              · simp [h2, h3, h4, h5]
theorem empty_size {s : ByteArray} (h : (s.toList == ([] : List UInt8)) = true) : s.size ≤ 64 := by
  have h1 : s.toList = [] := by simpa using h
  have h2 : s.size = 0 := by
    rw [Lib.toList_data] at h1
    have := congrArg List.length h1
    simpa using this
  omega
theorem opOk_bounds (k : Nat) (a b x y : Int) (s : ByteArray) (h : impl_OpOk.f (k + 1) a b x y s = some true) : 1 ≤ x ∧ x ≤ 6 ∧ 0 ≤ y ∧ y ≤ 64 ∧ s.size ≤ 64 := by
  unfold impl_OpOk.f at h
  simp only [codeOk_impl, Option.bind_some, impl_OpOk.j0, between_eq] at h
  cases hc : codeB a b with
  | false => rw [hc] at h; simp at h
  | true =>
    rw [hc] at h
    simp only [if_true] at h
    by_cases h1 : x = 1
    · subst h1
      by_cases hy : y = 0
      · subst hy
        simp only [if_true, beq_self_eq_true, Option.some.injEq] at h
        have := empty_size h
        omega
      · simp [hy] at h
    · by_cases h6 : x = 6
      · subst h6
        by_cases hy : y = 0
        · subst hy
          simp only [if_true, beq_self_eq_true, Option.some.injEq, if_neg h1] at h
          have := empty_size h
          omega
        · simp [hy] at h
      · have e6 : (x == 6) = false := by simp [h6]
        simp only [if_neg h1, e6, Bool.false_eq_true, if_false] at h
        by_cases h2 : x = 2
        · subst h2
          by_cases hy : y = 0
          · simp [hy] at h; omega
          · simp [hy] at h
        · by_cases h3 : x = 3
          · subst h3
            by_cases ha : a = 1 <;> by_cases hr : 0 ≤ y ∧ y ≤ 64 <;> simp [ha, hr] at h
            omega
          · by_cases h4 : x = 4
            · subst h4
              by_cases ha : a = 1 <;> by_cases hy : y = 0 <;> simp [ha, hy] at h
              omega
            · by_cases h5 : x = 5
              · subst h5
                by_cases ha : a = 1
                · by_cases hr : 0 ≤ y ∧ y ≤ 64
                  · simp only [ha, if_true, Option.some.injEq, if_neg h2, if_neg h3, if_neg h4, decide_eq_true hr] at h
                    have := empty_size h
                    omega
                  · simp [ha, hr] at h
                · simp [ha] at h
              · simp [h2, h3, h4, h5] at h
theorem opOk_ex (x y : Int) (s : ByteArray) : ∃ v : Bool, (∀ k, spec_OpOk.f (k + 1) 1 0 x y s = some v) ∧ (∀ k, impl_OpOk.f (k + 1) 1 0 x y s = some v) ∧ (v = true → 1 ≤ x ∧ x ≤ 6 ∧ 0 ≤ y ∧ y ≤ 64 ∧ s.size ≤ 64) := by
  obtain ⟨v, h1, h2⟩ := opOk_same 0 1 0 x y s
  refine ⟨v, fun k => ?_, fun k => ?_, fun hv => opOk_bounds 0 1 0 x y s (by rw [h2, hv])⟩
  · rw [← h1]; unfold spec_OpOk.f; simp only [spec_OpOk.j0]
  · rw [← h2]; unfold impl_OpOk.f; simp only [impl_OpOk.j0]
theorem ow_both (B X : ByteArray) (a : Int) (h0 : 0 ≤ a) (h1 : a ≤ 64) (hB : B.size ≤ 64) (hX : X.size ≤ 64) : ∃ r, spec_l16Lay.f B a X = some r ∧ impl_overwritten.f B a X = some r ∧ r.size ≤ 64 := by
  unfold spec_l16Lay.f impl_overwritten.f
  rw [if_pos ⟨h0, h1, hB, hX⟩]
  refine ⟨_, rfl, rfl, ?_⟩
  have hp := spec_l16Lay.pad_length B.data.toList a.toNat
  have hB' : B.data.toList.length = B.size := by simp
  have hX' : X.data.toList.length = X.size := by simp
  have hl := spec_l16Lay.lay_length (spec_l16Lay.pad B.data.toList a.toNat) X.data.toList a.toNat (min X.size (64 - a.toNat)) (by omega) (by omega)
  show (spec_l16Lay.lay (spec_l16Lay.pad B.data.toList a.toNat) X.data.toList a.toNat (min X.size (64 - a.toNat))).toArray.size ≤ 64
  rw [List.size_toArray, hl]
  omega
/-- What the two do with an operation that is right. -/
theorem apply_same (b : ByteArray) (t : Bool) (x y : Int) (s : ByteArray) (hb : b.size ≤ 64) (hx : 1 ≤ x ∧ x ≤ 6 ∧ 0 ≤ y ∧ y ≤ 64 ∧ s.size ≤ 64) : ∃ r : ByteArray × Bool, (∀ k, spec_ApplyOp.j1 (k + 1) b t x y s = some r) ∧ (∀ k, impl_Op_apply.j0 (k + 1) b t x y s = some r) ∧ r.1.size ≤ 64 := by
  obtain ⟨h1, h6, hy0, hy1, hs⟩ := hx
  obtain ⟨q, hq1, hq2, hq3⟩ := ow_both b s y hy0 hy1 hb hs
  obtain ⟨p, hp1, hp2, hp3⟩ := ow_both b s (b.size : Int) (by omega) (by omega) hb hs
  by_cases e1 : x = 1
  · subst e1; exact ⟨(b, t), fun k => (by simp [spec_ApplyOp.j1]), fun k => by simp [impl_Op_apply.j0], hb⟩
  · by_cases e2 : x = 2
    · subst e2; exact ⟨(s, true), fun k => (by simp [spec_ApplyOp.j1]), fun k => by simp [impl_Op_apply.j0], hs⟩
    · by_cases e3 : x = 3
      · subst e3; exact ⟨(q, true), fun k => (by simp [spec_ApplyOp.j1, hq1]), fun k => by simp [impl_Op_apply.j0, hq2], hq3⟩
      · by_cases e4 : x = 4
        · subst e4; exact ⟨(p, true), fun k => (by simp [spec_ApplyOp.j1, hp1]), fun k => by simp [impl_Op_apply.j0, hp2], hp3⟩
        · by_cases e5 : x = 5
          · subst e5
            have hm : mn (b.size : Int) y = if y < (b.size : Int) then y else (b.size : Int) := rfl
            have hn : spec_l00Min.f y (b.size : Int) = some (if y < (b.size : Int) then y else (b.size : Int)) := by unfold spec_l00Min.f; split <;> rfl
            refine ⟨(b.extract 0 (if y < (b.size : Int) then y else (b.size : Int)).toNat, t), fun k => ?_, fun k => ?_, by simp only [ByteArray.size_extract]; omega⟩
            · simp only [spec_ApplyOp.j1, hn, Option.bind_some]
              rw [if_neg (by omega), if_neg (by omega), if_neg (by omega), if_neg (by omega), if_pos trivial, if_pos (by split <;> omega), if_pos (by split <;> omega)]
            · simp only [impl_Op_apply.j0, hm]
              rw [if_neg (by omega), if_neg (by omega), if_neg (by omega), if_pos trivial, if_pos (by split <;> omega), if_pos (by split <;> omega)]
          · obtain rfl : x = 6 := by omega
            exact ⟨((⟨#[]⟩ : ByteArray), false), fun k => by simp [spec_ApplyOp.j1], fun k => by simp [impl_Op_apply.j0], by decide⟩
def opOf (x : S57) : S60 := ⟨x.f0, x.f1, x.f2⟩
theorem rdO_at {l : List S60} {i : Nat} (h : i < l.length) : rd_T60 l (i : Int) = l[i] := by
  simp [rd_T60, List.getD_eq_getElem?_getD, List.getElem?_eq_getElem h]
theorem rdL_at {l : List S57} {i : Nat} (h : i < l.length) : rd_T57 l (i : Int) = l[i] := by
  simp [rd_T57, List.getD_eq_getElem?_getD, List.getElem?_eq_getElem h]
theorem toOps_ev (l : List S57) (hn : l.length ≤ 8796093022208) : Ev (fun k => laws_toOpS.f k l) (l.map opOf) := by
  unfold laws_toOpS.f
  refine evp (by omega) (evp (by omega) ?_)
  exact to_rows (fun k ys i => laws_toOpS.l0 k l ys i) opOf l (fun i ys h hl r hr => by
    apply evsucc
    simp only [laws_toOpS.l0]
    refine evp (by omega) (evp (by omega) (evk rfl (evp (by omega) ?_)))
    rw [wsucc h (by omega), rdL_at h, Int.toNat_natCast]
    exact hr) (fun ys => by
    apply evsucc
    simp only [laws_toOpS.l0]
    exact evn (by omega) (evc fun _ => rfl)) l.length 0 _ (by omega) (by simp) (by simp)
theorem eqOps_ev (l : List S60) (hn : l.length ≤ 8796093022208) : Ev (fun k => laws_eqOpS.f k l l) true := by
  unfold laws_eqOpS.f
  refine evp rfl (on_rows (n := l.length) (fun k i => laws_eqOpS.l0 k l l i) true (fun i h hr => ?_) ?_ l.length 0 (by omega))
  · apply evsucc
    simp only [laws_eqOpS.l0]
    refine evp (by omega) (evp (by omega) (evp (by omega) (evk (a := true) (by simp [laws_eqOp.f]) (evp rfl ?_))))
    rw [wsucc h (by omega)]
    exact hr
  · apply evsucc
    simp only [laws_eqOpS.l0]
    exact evn (by omega) (evc fun _ => rfl)
theorem szOps_ex (l : List S57) (a : Int) (hn : l.length ≤ 8796093022208) : ∃ r, Ev (fun k => laws_szOpS.f k l a) r := by
  unfold laws_szOpS.f
  refine exi (exc _) (ex_rows (n := l.length) (fun k s i => laws_szOpS.l0 k l s i) (fun i s h hr => exs ?_) (fun s => exs ?_) l.length 0 _ (by omega))
  · simp only [laws_szOpS.l0]
    refine exp_ (by omega) (exp_ (by omega) (exk (by unfold laws_szOp.f; split <;> exact ⟨_, rfl⟩) (fun a => exi (exc _) ?_)))
    rw [wsucc h (by omega)]
    exact hr _
  · simp only [laws_szOpS.l0]
    exact exn_ (by omega) (exc _)
/-- One operation that is right, at a body that is no longer than it may be. -/
theorem step_same (b : ByteArray) (t : Bool) (x y : Int) (s : ByteArray) (hb : b.size ≤ 64) (h1 : ∀ k, spec_OpOk.f (k + 1) 1 0 x y s = some true) (hx : 1 ≤ x ∧ x ≤ 6 ∧ 0 ≤ y ∧ y ≤ 64 ∧ s.size ≤ 64) :
    ∃ r : ByteArray × Bool, (∀ k, spec_ApplyOp.f (k + 2) b t x y s = some r) ∧ (∀ k, impl_Op_apply.f (k + 1) x y s b t = some r) ∧ r.1.size ≤ 64 := by
  have e1 : ∀ k, spec_ApplyOp.f (k + 2) b t x y s = spec_ApplyOp.j0 (k + 2) b t false x y s := fun k => by
    unfold spec_ApplyOp.f spec_l16Plain.f
    simp only [Option.bind_some, h1 (k + 1), if_true]
    rw [decide_eq_false (by omega)]
  cases t with
  | true =>
    obtain ⟨r, q1, q2, q3⟩ := apply_same b true x y s hb hx
    exact ⟨r, fun k => by rw [e1]; simp only [spec_ApplyOp.j0, Bool.false_eq_true, if_false, if_true]; exact q1 k, fun k => by unfold impl_Op_apply.f; rw [if_pos rfl]; exact q2 k, q3⟩
  | false =>
    obtain ⟨r, q1, q2, q3⟩ := apply_same (⟨#[]⟩ : ByteArray) false x y s (by decide) hx
    exact ⟨r, fun k => by rw [e1]; simp only [spec_ApplyOp.j0, Bool.false_eq_true, if_false]; exact q1 k, fun k => by unfold impl_Op_apply.f; rw [if_neg (by decide)]; exact q2 k, q3⟩
theorem ops_loop (m : List S60) (hm : m.length ≤ 24) : ∀ (d i : Nat) (b : ByteArray) (t : Bool), i + d = m.length → b.size ≤ 64 →
    ∃ r : ByteArray × Bool, Ev (fun k => spec_ApplyOps.l0 k b t m (i : Int)) r ∧ (((m.drop i).any fun x => !impl_ApplyOps.okB x) = true → r = ((⟨#[]⟩ : ByteArray), false)) ∧ (((m.drop i).any fun x => !impl_ApplyOps.okB x) = false → impl_ApplyOps.l0 b t (m.drop i) = some r) := by
  intro d
  induction d with
  | zero =>
    intro i b t h hb
    refine ⟨(b, t), evsucc ?_, ?_, ?_⟩
    · simp only [spec_ApplyOps.l0]
      exact evn (by omega) (evc fun _ => rfl)
    · rw [List.drop_of_length_le (by omega)]; simp
    · rw [List.drop_of_length_le (by omega)]; intro _; rfl
  | succ d ih =>
    intro i b t h hb
    have hi : i < m.length := by omega
    obtain ⟨v, h1, h2, h3⟩ := opOk_ex m[i].f0 m[i].f1 m[i].f2
    have hok : impl_ApplyOps.okB m[i] = v := by unfold impl_ApplyOps.okB; rw [h2 1]; rfl
    have hv : Ev (fun k => spec_OpOk.f k 1 0 m[i].f0 m[i].f1 m[i].f2) v := evsucc (evc h1)
    rw [drop_at hi, List.any_cons, hok]
    cases v with
    | false =>
      refine ⟨((⟨#[]⟩ : ByteArray), false), evsucc ?_, fun _ => rfl, by simp⟩
      simp only [spec_ApplyOps.l0, spec_l16Plain.f, Option.bind_some]
      rw [rdO_at hi]
      exact evp (by omega) (evp (by omega) (evb hv (evn (by simp) (evc fun _ => rfl))))
    | true =>
      obtain ⟨r1, q1, q2, q3⟩ := step_same b t _ _ _ hb h1 (h3 rfl)
      obtain ⟨r, e1, e2, e3⟩ := ih (i + 1) r1.1 r1.2 (by omega) q3
      refine ⟨r, evsucc ?_, by simpa using e2, fun hh => ?_⟩
      · simp only [spec_ApplyOps.l0, spec_l16Plain.f, Option.bind_some]
        rw [rdO_at hi, wsucc hi (by omega)]
        exact evp (by omega) (evp (by omega) (evb hv (evp (by trivial) (evb (evsucc (evsucc (evc q1))) e1))))
      · simp only [impl_ApplyOps.l0]
        rw [q2 1]
        exact e3 (by simpa using hh)
theorem applyOps_same (b : ByteArray) (t : Bool) (m : List S60) : ∃ r : ByteArray × Bool, Ev (fun k => spec_ApplyOps.f k b t m) r ∧ impl_ApplyOps.f b t m = some r := by
  have e0 : ∀ c : Bool, c = true → Ev (fun k => spec_ApplyOps.j0 k b t m c) ((⟨#[]⟩ : ByteArray), false) := fun c hc => by
    subst hc
    apply evsucc
    simp only [spec_ApplyOps.j0]
    exact evp (by trivial) (evc fun _ => rfl)
  unfold spec_ApplyOps.f
  by_cases h1 : (m.length : Int) > 24
  · refine ⟨_, evp h1 (e0 true rfl), ?_⟩
    unfold impl_ApplyOps.f
    rw [if_neg (by omega)]
  · by_cases h2 : (b.size : Int) > 64
    · refine ⟨_, evn h1 (e0 _ (decide_eq_true h2)), ?_⟩
      unfold impl_ApplyOps.f
      rw [if_neg (by omega)]
    · have hall : (m.all fun x => (impl_OpOk.f 2 1 0 x.f0 x.f1 x.f2).isSome) = true := by
        rw [List.all_eq_true]
        intro x _
        obtain ⟨v, _, q, _⟩ := opOk_ex x.f0 x.f1 x.f2
        rw [q 1]; rfl
      have key : ∀ (b' : ByteArray), b'.size ≤ 64 → b' = (if t = true then b else (⟨#[]⟩ : ByteArray)) → ∃ r : ByteArray × Bool, Ev (fun k => spec_ApplyOps.l0 k b' t m 0) r ∧ impl_ApplyOps.f b t m = some r := by
        intro b' hb' hbe
        obtain ⟨r, q1, q2, q3⟩ := ops_loop m (by omega) m.length 0 b' t (by omega) hb'
        refine ⟨r, q1, ?_⟩
        unfold impl_ApplyOps.f
        rw [if_pos ⟨by omega, by omega⟩, if_pos hall, ← hbe]
        rw [List.drop_zero] at q2 q3
        by_cases ha : (m.any fun x => !impl_ApplyOps.okB x) = true
        · rw [if_pos ha, q2 ha]
        · rw [if_neg ha]
          exact q3 (by simpa using ha)
      cases t with
      | true =>
        obtain ⟨r, q1, q2⟩ := key b (by omega) rfl
        refine ⟨r, evn h1 (evsucc ?_), q2⟩
        simp only [spec_ApplyOps.j0, decide_eq_false h2]
        refine evn (by simp) (evp (by trivial) (evsucc ?_))
        simp only [spec_ApplyOps.j1]
        exact q1
      | false =>
        obtain ⟨r, q1, q2⟩ := key (⟨#[]⟩ : ByteArray) (by decide) rfl
        refine ⟨r, evn h1 (evsucc ?_), q2⟩
        simp only [spec_ApplyOps.j0, decide_eq_false h2]
        refine evn (by simp) (evn (by simp) (evsucc ?_))
        simp only [spec_ApplyOps.j1]
        exact q1
theorem FnExactApplyOps : Stmt.FnExactApplyOps.PureS := by
  intro b t l _ ⟨_, hl, _⟩
  have hl8 : l.length ≤ 8796093022208 := by omega
  apply ev_ex
  unfold laws_FnExactApplyOps.f
  by_cases h0 : (b.size : Int) > 1048576
  · exact evp h0 (evc fun _ => rfl)
  · refine evn h0 ?_
    obtain ⟨z, hz⟩ := szOps_ex l 1048576 hl8
    refine evb hz ?_
    by_cases hz0 : z < 0
    · exact evp hz0 (evc fun _ => rfl)
    · have ht := toOps_ev l hl8
      have he := eqOps_ev (l.map opOf) (by simpa using hl8)
      obtain ⟨r, h1, h2⟩ := applyOps_same b t (l.map opOf)
      refine evn hz0 (evb ht (evb h1 (evb ht (evk h2 (evp rfl (evsucc ?_))))))
      simp only [laws_FnExactApplyOps.j0]
      exact evn (by simp) (evb ht (evb he (evp (by trivial) (evc fun _ => rfl))))
end Go.Proofs.Ythphhklbliambaa.Pure
