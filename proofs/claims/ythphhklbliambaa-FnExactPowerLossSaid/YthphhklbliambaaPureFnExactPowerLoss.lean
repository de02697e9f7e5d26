/- The program's PowerLoss and the reference's give one disk and one code, in memory of its own, at every disk, list and number within the reach. No other condition. -/
import Derived.Test.YthphhklbliambaaStmtFnExactPowerLoss
set_option linter.unusedSimpArgs false
set_option linter.unusedVariables false
namespace Go.Proofs.Ythphhklbliambaa.Pure
open Go.RowKit Go.Proofs.Ythphhklbliambaa.MFnExactPowerLoss Go.Proofs.YthphhklbliambaaW.PrintWords Go.Proofs.YthphhklbliambaaW.PrintLast
theorem evc {α : Type} {g : Nat → Option α} {r : α} (h : ∀ k, g k = some r) : Ev g r := ⟨0, fun k _ => h k⟩
theorem evsucc {α : Type} {g : Nat → Option α} {r : α} (h : Ev (fun k => g (k + 1)) r) : Ev g r := by
  obtain ⟨K, hK⟩ := h
  refine ⟨K + 1, fun k hk => ?_⟩
  obtain ⟨k, rfl⟩ : ∃ m, k = m + 1 := ⟨k - 1, by omega⟩
  exact hK k (by omega)
theorem evp {α : Type} {c : Prop} [Decidable c] {g f : Nat → Option α} {r : α} (hc : c) (h : Ev g r) : Ev (fun k => if c then g k else f k) r := by
  simp only [if_pos hc]; exact h
theorem evn {α : Type} {c : Prop} [Decidable c] {g f : Nat → Option α} {r : α} (hc : ¬ c) (h : Ev f r) : Ev (fun k => if c then g k else f k) r := by
  simp only [if_neg hc]; exact h
theorem evb {α β : Type} {g : Nat → Option α} {f : Nat → α → Option β} {a : α} {r : β} (h : Ev g a) (k : Ev (fun n => f n a) r) : Ev (fun n => (g n).bind (f n)) r := Ev.bind h k
theorem evk {α β : Type} {g : Option α} {f : Nat → α → Option β} {a : α} {r : β} (h : g = some a) (k : Ev (fun n => f n a) r) : Ev (fun n => g.bind (f n)) r := by subst h; exact k
theorem ev_ex {α : Type} {g : Nat → Option α} {r : α} (h : Ev g r) : ∃ k, g k = some r := by obtain ⟨K, hK⟩ := h; exact ⟨K, hK K (Nat.le_refl _)⟩
theorem wsucc {i n : Nat} (h : i < n) (hn : n ≤ 140737488351232) : wrap64 ((i : Int) + 1) = ((i + 1 : Nat) : Int) := by unfold wrap64; omega
theorem rd_at {l : List Int} {i : Nat} (h : i < l.length) : rd l (i : Int) = l[i] := by
  simp [rd, List.getD_eq_getElem?_getD, List.getElem?_eq_getElem h]
theorem drop_at {α : Type} {l : List α} {i : Nat} (h : i < l.length) : l.drop i = l[i] :: l.drop (i + 1) := List.drop_eq_getElem_cons h
theorem take_at {α : Type} {l : List α} {i : Nat} (h : i < l.length) : l.take (i + 1) = l.take i ++ [l[i]] := by
  rw [List.take_succ_eq_append_getElem h]
theorem between_eq (a b c : Int) : impl_between.f a b c = some (decide (b ≤ a ∧ a ≤ c)) := by
  unfold impl_between.f
  by_cases h : a ≥ b
  · have h' : b ≤ a := h
    simp [h, h']
  · have h' : ¬ b ≤ a := h
    simp [h, h']
theorem l00In_eq (a b c : Int) : spec_l00In.f a b c = some (decide (b ≤ a ∧ a ≤ c)) := by
  unfold spec_l00In.f
  by_cases h : a ≥ b
  · have h' : b ≤ a := h
    simp [h, h']
  · have h' : ¬ b ≤ a := h
    simp [h, h']
/-- Every element of a row taken over into a row made ahead. -/
theorem to_rows {α β : Type} (L : Nat → List β → Int → Option (List β)) (conv : α → β) (xs : List α)
    (hs : ∀ (i : Nat) (ys : List β) (h : i < xs.length), ys.length = xs.length → ∀ r, Ev (fun k => L k (ys.set i (conv xs[i])) ((i + 1 : Nat) : Int)) r → Ev (fun k => L k ys (i : Int)) r)
    (he : ∀ ys, Ev (fun k => L k ys (xs.length : Int)) ys) : ∀ (d i : Nat) (ys : List β), i + d = xs.length → ys.length = xs.length → ys.take i = (xs.take i).map conv → Ev (fun k => L k ys (i : Int)) (xs.map conv) := by
  intro d
  induction d with
  | zero =>
    intro i ys h hl ht
    obtain rfl : i = xs.length := by omega
    rw [← hl, List.take_length, hl, List.take_length] at ht
    subst ht
    exact he _
  | succ d ih =>
    intro i ys h hl ht
    have hi : i < xs.length := by omega
    refine hs i ys hi hl _ (ih (i + 1) _ (by omega) (by simpa using hl) ?_)
    rw [take_at (by simp; omega), take_at hi, List.take_set_of_le (by omega), ht, List.map_append]
    simp only [List.getElem_set_self, List.map_cons, List.map_nil]
/-- A loop that asks something of each element, and goes on. -/
theorem on_rows {β : Type} {n : Nat} (L : Nat → Int → Option β) (r : β) (hs : ∀ i : Nat, i < n → Ev (fun k => L k ((i + 1 : Nat) : Int)) r → Ev (fun k => L k (i : Int)) r) (he : Ev (fun k => L k (n : Int)) r) :
    ∀ (d i : Nat), i + d = n → Ev (fun k => L k (i : Int)) r := by
  intro d
  induction d with
  | zero => intro i h; obtain rfl : i = n := by omega
            exact he
  | succ d ih => intro i h; exact hs i (by omega) (ih (i + 1) (by omega))
theorem exb {α β : Type} {g : Nat → Option α} {f : Nat → α → Option β} (h : ∃ a, Ev g a) (k : ∀ a, ∃ r, Ev (fun n => f n a) r) : ∃ r, Ev (fun n => (g n).bind (f n)) r := by
  obtain ⟨a, ha⟩ := h
  obtain ⟨r, hr⟩ := k a
  exact ⟨r, evb ha hr⟩
theorem exk {α β : Type} {g : Option α} {f : Nat → α → Option β} (h : ∃ a, g = some a) (k : ∀ a, ∃ r, Ev (fun n => f n a) r) : ∃ r, Ev (fun n => g.bind (f n)) r := by
  obtain ⟨a, rfl⟩ := h
  exact k a
theorem exi {α : Type} {c : Prop} [Decidable c] {g f : Nat → Option α} (h1 : ∃ r, Ev g r) (h2 : ∃ r, Ev f r) : ∃ r, Ev (fun k => if c then g k else f k) r := by
  by_cases h : c
  · simp only [if_pos h]; exact h1
  · simp only [if_neg h]; exact h2
theorem exp_ {α : Type} {c : Prop} [Decidable c] {g f : Nat → Option α} (h : c) (h1 : ∃ r, Ev g r) : ∃ r, Ev (fun k => if c then g k else f k) r := by
  simp only [if_pos h]; exact h1
theorem exn_ {α : Type} {c : Prop} [Decidable c] {g f : Nat → Option α} (h : ¬ c) (h2 : ∃ r, Ev f r) : ∃ r, Ev (fun k => if c then g k else f k) r := by
  simp only [if_neg h]; exact h2
theorem exc {α : Type} (r : α) : ∃ q : α, Ev (fun _ : Nat => some r) q := ⟨r, evc fun _ => rfl⟩
theorem exs {α : Type} {g : Nat → Option α} (h : ∃ r, Ev (fun k => g (k + 1)) r) : ∃ r, Ev g r := by
  obtain ⟨r, hr⟩ := h
  exact ⟨r, evsucc hr⟩
/-- A loop over a row, whatever it carries, ends. -/
theorem ex_rows {σ β : Type} {n : Nat} (L : Nat → σ → Int → Option β) (hs : ∀ (i : Nat) (s : σ), i < n → (∀ s', ∃ r, Ev (fun k => L k s' ((i + 1 : Nat) : Int)) r) → ∃ r, Ev (fun k => L k s (i : Int)) r) (he : ∀ s, ∃ r, Ev (fun k => L k s (n : Int)) r) :
    ∀ (d i : Nat) (s : σ), i + d = n → ∃ r, Ev (fun k => L k s (i : Int)) r := by
  intro d
  induction d with
  | zero => intro i s h; obtain rfl : i = n := by omega
            exact he s
  | succ d ih => intro i s h; exact hs i s (by omega) (fun s' => ih (i + 1) s' (by omega))
theorem rdStr_at {l : List ByteArray} {i : Nat} (h : i < l.length) : rdOf ByteArray.empty l (i : Int) = l[i] := by
  simp [rdOf, List.getD_eq_getElem?_getD, List.getElem?_eq_getElem h]
theorem exv {α β : Type} {g : Option α} {f : Nat → α → Option β} {a : α} (h : g = some a) (k : ∃ r, Ev (fun n => f n a) r) : ∃ r, Ev (fun n => g.bind (f n)) r := by
  subst h
  exact k
theorem toInts_loop (l : List Int) (hn : l.length ≤ 140737488351232) : ∀ (d i : Nat) (ys : List Int), i + d = l.length → ys.length = l.length → ys.take i = l.take i → Ev (fun k => laws_toInt64S.l0 k l ys (i : Int)) l := by
  intro d
  induction d with
  | zero =>
    intro i ys h hl ht
    apply evsucc
    simp only [laws_toInt64S.l0]
    refine evn (by omega) (evc fun _ => ?_)
    obtain rfl : i = l.length := by omega
    rw [← hl, List.take_length] at ht
    rw [ht, hl, List.take_length]
  | succ d ih =>
    intro i ys h hl ht
    apply evsucc
    simp only [laws_toInt64S.l0]
    refine evp (by omega) (evp (by omega) (evp (by omega) ?_))
    rw [wsucc (n := l.length) (by omega) hn, rd_at (by omega), Int.toNat_natCast]
    refine ih (i + 1) _ (by omega) (by simpa using hl) ?_
    rw [take_at (by simp; omega), take_at (by omega), List.take_set_of_le (by omega), ht]
    simp
theorem toInts_ev (l : List Int) (hn : l.length ≤ 35184372088832) : Ev (fun k => laws_toInt64S.f k l) l := by
  unfold laws_toInt64S.f
  refine evp (by omega) (evp (by omega) ?_)
  exact toInts_loop l (by omega) l.length 0 _ (by omega) (by simp) (by simp)
theorem eqInts_loop (l : List Int) (hn : l.length ≤ 140737488351232) : ∀ (d i : Nat), i + d = l.length → Ev (fun k => laws_eqInt64S.l0 k l l (i : Int)) true := by
  intro d
  induction d with
  | zero =>
    intro i h
    apply evsucc
    simp only [laws_eqInt64S.l0]
    exact evn (by omega) (evc fun _ => rfl)
  | succ d ih =>
    intro i h
    apply evsucc
    simp only [laws_eqInt64S.l0]
    refine evp (by omega) (evp (by omega) (evp (by omega) (evp (by trivial) ?_)))
    rw [wsucc (n := l.length) (by omega) hn]
    exact ih (i + 1) (by omega)
theorem eqInts_ev (l : List Int) (hn : l.length ≤ 140737488351232) : Ev (fun k => laws_eqInt64S.f k l l) true := by
  unfold laws_eqInt64S.f
  exact evp rfl (eqInts_loop l hn l.length 0 (by omega))
theorem toStrs_ev (l : List ByteArray) (hn : l.length ≤ 17592186044416) : Ev (fun k => laws_toStringS.f k l) l := by
  unfold laws_toStringS.f
  refine evp (by omega) (evp (by omega) ?_)
  have := to_rows (fun k ys i => laws_toStringS.l0 k l ys i) (fun s : ByteArray => s) l (fun i ys h hl r hr => by
    apply evsucc
    simp only [laws_toStringS.l0]
    refine evp (by omega) (evp (by omega) (evp (by omega) ?_))
    rw [wsucc h (by omega), rdStr_at h, Int.toNat_natCast]
    exact hr) (fun ys => by
    apply evsucc
    simp only [laws_toStringS.l0]
    exact evn (by omega) (evc fun _ => rfl)) l.length 0 (List.replicate ((l.length : Int) : Int).toNat (⟨#[]⟩ : ByteArray)) (by omega) (by simp) (by simp)
  simpa using this
theorem eqStrs_ev (l : List ByteArray) (hn : l.length ≤ 17592186044416) : Ev (fun k => laws_eqStringS.f k l l) true := by
  unfold laws_eqStringS.f
  refine evp rfl (on_rows (n := l.length) (fun k i => laws_eqStringS.l0 k l l i) true (fun i h hr => ?_) ?_ l.length 0 (by omega))
  · apply evsucc
    simp only [laws_eqStringS.l0]
    refine evp (by omega) (evp (by omega) (evp (by omega) (evp (by trivial) ?_)))
    rw [wsucc h (by omega)]
    exact hr
  · apply evsucc
    simp only [laws_eqStringS.l0]
    exact evn (by omega) (evc fun _ => rfl)
theorem szStrs_ex (l : List ByteArray) (a : Int) (hn : l.length ≤ 17592186044416) : ∃ r, Ev (fun k => laws_szStringS.f k l a) r := by
  unfold laws_szStringS.f
  refine exi (exc _) (ex_rows (n := l.length) (fun k s i => laws_szStringS.l0 k l s i) (fun i s h hr => exs ?_) (fun s => exs ?_) l.length 0 _ (by omega))
  · simp only [laws_szStringS.l0]
    refine exp_ (by omega) (exp_ (by omega) (exi (exc _) ?_))
    rw [wsucc h (by omega)]
    exact hr _
  · simp only [laws_szStringS.l0]
    exact exn_ (by omega) (exc _)
def pend (x : S129) : S55 := ⟨x.f0, x.f1⟩
theorem rdP_at {l : List S55} {i : Nat} (h : i < l.length) : rd_T55 l (i : Int) = l[i] := by
  simp [rd_T55, List.getD_eq_getElem?_getD, List.getElem?_eq_getElem h]
theorem rdQ_at {l : List S129} {i : Nat} (h : i < l.length) : rd_T129 l (i : Int) = l[i] := by
  simp [rd_T129, List.getD_eq_getElem?_getD, List.getElem?_eq_getElem h]
theorem toPends_ev (l : List S129) (hn : l.length ≤ 11728124029610) : Ev (fun k => laws_toPendingS.f k l) (l.map pend) := by
  unfold laws_toPendingS.f
  refine evp (by omega) (evp (by omega) ?_)
  exact to_rows (fun k ys i => laws_toPendingS.l0 k l ys i) pend l (fun i ys h hl r hr => by
    apply evsucc
    simp only [laws_toPendingS.l0]
    refine evp (by omega) (evp (by omega) (evk rfl (evp (by omega) ?_)))
    rw [wsucc h (by omega), rdQ_at h, Int.toNat_natCast]
    exact hr) (fun ys => by
    apply evsucc
    simp only [laws_toPendingS.l0]
    exact evn (by omega) (evc fun _ => rfl)) l.length 0 _ (by omega) (by simp) (by simp)
theorem eqPends_ev (l : List S55) (hn : l.length ≤ 11728124029610) : Ev (fun k => laws_eqPendingS.f k l l) true := by
  unfold laws_eqPendingS.f
  refine evp rfl (on_rows (n := l.length) (fun k i => laws_eqPendingS.l0 k l l i) true (fun i h hr => ?_) ?_ l.length 0 (by omega))
  · apply evsucc
    simp only [laws_eqPendingS.l0]
    refine evp (by omega) (evp (by omega) (evp (by omega) (evk (a := true) (by simp [laws_eqPending.f]) (evp rfl ?_))))
    rw [wsucc h (by omega)]
    exact hr
  · apply evsucc
    simp only [laws_eqPendingS.l0]
    exact evn (by omega) (evc fun _ => rfl)
theorem szPends_ex (l : List S129) (a : Int) (hn : l.length ≤ 11728124029610) : ∃ r, Ev (fun k => laws_szPendingS.f k l a) r := by
  unfold laws_szPendingS.f
  refine exi (exc _) (ex_rows (n := l.length) (fun k s i => laws_szPendingS.l0 k l s i) (fun i s h hr => exs ?_) (fun s => exs ?_) l.length 0 _ (by omega))
  · simp only [laws_szPendingS.l0]
    refine exp_ (by omega) (exp_ (by omega) (exk (by unfold laws_szPending.f; split <;> exact ⟨_, rfl⟩) (fun a => exi (exc _) ?_)))
    rw [wsucc h (by omega)]
    exact hr _
  · simp only [laws_szPendingS.l0]
    exact exn_ (by omega) (exc _)
theorem toDisk_ev (s : List ByteArray) (p : List S129) (hs : s.length ≤ 8796093021968) (hp : p.length ≤ 5864062014639) : Ev (fun k => laws_toDisk.f k s p) (s, p.map pend) := by
  unfold laws_toDisk.f
  exact evb (toStrs_ev s (by omega)) (evb (toPends_ev p (by omega)) (evc fun _ => rfl))
theorem eqDisk_ev (s : List ByteArray) (p : List S55) (hs : s.length ≤ 8796093021968) (hp : p.length ≤ 5864062014639) : Ev (fun k => laws_eqDisk.f k s p s p) true := by
  unfold laws_eqDisk.f
  exact evb (eqStrs_ev s (by omega)) (evp rfl (evb (eqPends_ev p (by omega)) (evp rfl (evc fun _ => rfl))))
theorem szDisk_ex (s : List ByteArray) (p : List S129) (a : Int) (hs : s.length ≤ 8796093021968) (hp : p.length ≤ 5864062014639) : ∃ r, Ev (fun k => laws_szDisk.f k s p a) r := by
  unfold laws_szDisk.f
  exact exb (szStrs_ex s a (by omega)) (fun _ => exi (exc _) (exb (szPends_ex p _ (by omega)) (fun _ => exi (exc _) (exc _))))
theorem diskWaits (s : List ByteArray) (p : List S55) (hs : s.length ≤ 8796093021968) (hp : p.length ≤ 5864062014639) : ∀ (d i : Nat), i + d = p.length →
    Ev (fun k => spec_DiskOk.l1 k (s.length : Int) (i : Int) s p) (!(p.drop i).any fun x => !impl_DiskOk.wait s.length x) := by
  intro d
  induction d with
  | zero =>
    intro i h
    apply evsucc
    simp only [spec_DiskOk.l1]
    refine evn (by omega) (evc fun _ => ?_)
    rw [List.drop_of_length_le (by omega)]
    rfl
  | succ d ih =>
    intro i h
    have hi : i < p.length := by omega
    apply evsucc
    simp only [spec_DiskOk.l1]
    refine evp (by omega) (evp (by omega) (evk (l00In_eq _ _ _) ?_))
    rw [wsucc hi (by omega), rdP_at hi, drop_at hi, show wrap64 ((s.length : Int) - 1) = (s.length : Int) - 1 by unfold wrap64; omega]
    by_cases h1 : 0 ≤ p[i].f0 ∧ p[i].f0 ≤ (s.length : Int) - 1
    · refine evp (by simpa using h1) ?_
      by_cases h2 : (p[i].f1.size : Int) = 64
      · refine evp h2 ?_
        have hw : impl_DiskOk.wait s.length p[i] = true := by unfold impl_DiskOk.wait; rw [decide_eq_true h1, h2]; rfl
        rw [List.any_cons, hw]
        simpa using ih (i + 1) (by omega)
      · refine evn h2 (evc fun _ => ?_)
        have hw : impl_DiskOk.wait s.length p[i] = false := by unfold impl_DiskOk.wait; rw [beq_eq_false_iff_ne.2 h2, Bool.and_false]
        rw [List.any_cons, hw]
        rfl
    · refine evn (by simpa using h1) (evc fun _ => ?_)
      have hw : impl_DiskOk.wait s.length p[i] = false := by unfold impl_DiskOk.wait; rw [decide_eq_false h1, Bool.false_and]
      rw [List.any_cons, hw]
      rfl
theorem diskSecs (s : List ByteArray) (p : List S55) (hs : s.length ≤ 8796093021968) (hp : p.length ≤ 5864062014639) : ∀ (d i : Nat), i + d = s.length →
    Ev (fun k => spec_DiskOk.l0 k (s.length : Int) (i : Int) s p) (((s.drop i).all fun x => ((x.size : Int) == 64)) && !p.any fun x => !impl_DiskOk.wait s.length x) := by
  intro d
  induction d with
  | zero =>
    intro i h
    apply evsucc
    simp only [spec_DiskOk.l0]
    refine evn (by omega) ?_
    rw [List.drop_of_length_le (by omega)]
    simpa using diskWaits s p hs hp p.length 0 (by omega)
  | succ d ih =>
    intro i h
    have hi : i < s.length := by omega
    apply evsucc
    simp only [spec_DiskOk.l0]
    refine evp (by omega) (evp (by omega) ?_)
    rw [wsucc hi (by omega), rdStr_at hi, drop_at hi]
    by_cases h1 : (s[i].size : Int) = 64
    · refine evp h1 ?_
      rw [List.all_cons, h1]
      simpa using ih (i + 1) (by omega)
    · refine evn h1 (evc fun _ => ?_)
      rw [List.all_cons, beq_eq_false_iff_ne.2 h1]
      rfl
/-- Is a disk one? -/
def diskB (s : List ByteArray) (p : List S55) : Bool :=
  ((decide ((1 : Int) ≤ (s.length : Int) ∧ (s.length : Int) ≤ 1200) && decide ((p.length : Int) ≤ 600)) && s.all fun x => ((x.size : Int) == 64)) && !p.any fun x => !impl_DiskOk.wait s.length x
theorem diskImpl (s : List ByteArray) (p : List S55) : impl_DiskOk.f s p = some (diskB s p) := rfl
theorem diskSpec (s : List ByteArray) (p : List S55) (hs : s.length ≤ 8796093021968) (hp : p.length ≤ 5864062014639) : Ev (fun k => spec_DiskOk.f k s p) (diskB s p) := by
  unfold spec_DiskOk.f diskB
  by_cases h1 : (s.length : Int) < 1
  · have h1' : ¬ (1 ≤ (s.length : Int) ∧ (s.length : Int) ≤ 1200) := by omega
    refine evp h1 (evsucc ?_)
    simp only [spec_DiskOk.j0]
    refine evp (by simp) (evc fun _ => ?_)
    rw [decide_eq_false h1']; rfl
  · refine evn h1 ?_
    by_cases h2 : (s.length : Int) > 1200
    · have h1' : ¬ (1 ≤ (s.length : Int) ∧ (s.length : Int) ≤ 1200) := by omega
      refine evp h2 (evsucc ?_)
      simp only [spec_DiskOk.j0]
      refine evp (by simp) (evc fun _ => ?_)
      rw [decide_eq_false h1']; rfl
    · have h1' : 1 ≤ (s.length : Int) ∧ (s.length : Int) ≤ 1200 := by omega
      refine evn h2 (evsucc ?_)
      simp only [spec_DiskOk.j0]
      by_cases h3 : (p.length : Int) > 600
      · refine evp (by simpa using h3) (evc fun _ => ?_)
        rw [decide_eq_false (show ¬ (p.length : Int) ≤ 600 by omega)]; simp
      · refine evn (by simpa using h3) ?_
        rw [decide_eq_true h1', decide_eq_true (show (p.length : Int) ≤ 600 by omega)]
        simpa using diskSecs s p hs hp s.length 0 (by omega)
def sq : Int → Nat → List Int
  | _, 0 => []
  | v, n + 1 => v :: sq (v + 1) n
theorem mark_loop : ∀ (d i : Nat) (v : Int) (x : List Int), i + d = x.length → x.length ≤ 1048576 → 0 ≤ v → v + d ≤ 4611686018427387904 →
    ∃ y : List Int, Ev (fun k => laws_markInt64S.l0 k x v (i : Int)) (v + d, y) ∧ y.length = x.length ∧ y.take i = x.take i ∧ y.drop i = sq v d := by
  intro d
  induction d with
  | zero =>
    intro i v x h hx hv hb
    refine ⟨x, ?_, rfl, rfl, by rw [List.drop_of_length_le (by omega)]; rfl⟩
    apply evsucc
    simp only [laws_markInt64S.l0]
    exact evn (by omega) (evc fun _ => by simp)
  | succ d ih =>
    intro i v x h hx hv hb
    have hi : i < x.length := by omega
    obtain ⟨y, hy, hl, ht, hd⟩ := ih (i + 1) (v + 1) (x.set i v) (by simp; omega) (by simp; omega) (by omega) (by omega)
    have hiy : i < y.length := by rw [hl]; simpa using hi
    have hyi : y[i] = v := by
      have h1 : (y.take (i + 1))[i]? = ((x.set i v).take (i + 1))[i]? := by rw [ht]
      rw [List.getElem?_take_of_lt (by omega), List.getElem?_take_of_lt (by omega)] at h1
      simpa [List.getElem?_eq_getElem hiy, hi] using h1
    refine ⟨y, ?_, by simpa using hl, ?_, ?_⟩
    · apply evsucc
      simp only [laws_markInt64S.l0]
      refine evp (by omega) (evp (by omega) ?_)
      rw [wsucc hi (by omega), Int.toNat_natCast, show wrap64 (v + 1) = v + 1 by unfold wrap64; omega]
      have e : v + ((d + 1 : Nat) : Int) = v + 1 + (d : Int) := by omega
      rw [e]
      exact hy
    · have h1 := congrArg (List.take i) ht
      rw [List.take_take, List.take_take, Nat.min_eq_left (by omega), List.take_set_of_le (by omega)] at h1
      exact h1
    · rw [drop_at hiy, hyi, hd]
      rfl
theorem mark_ev (x : List Int) (hx : x.length ≤ 1048576) : ∃ y : List Int, Ev (fun k => laws_markInt64S.f k x 1) (1 + (x.length : Int), y) ∧ y = sq 1 x.length := by
  obtain ⟨y, hy, _, _, hd⟩ := mark_loop x.length 0 1 x (by omega) hx (by omega) (by omega)
  exact ⟨y, by simpa [laws_markInt64S.f] using hy, by simpa using hd⟩
/-- What the marks are. -/
def marks {β : Type} (val : Int → β) (c : Int) : Int → Nat → List β
  | _, 0 => []
  | v, n + 1 => val v :: marks val c (v + c) n
theorem marks_len {β : Type} (val : Int → β) (c : Int) : ∀ (n : Nat) (v : Int), (marks val c v n).length = n
  | 0, _ => rfl
  | n + 1, v => by simp [marks, marks_len val c n]
theorem mark_rows {β : Type} (L : Nat → List β → Int → Int → Option (Int × List β)) (val : Int → β) (c : Int) (n : Nat) (B : Int) (hc : 0 ≤ c)
    (hs : ∀ (i : Nat) (ys : List β) (v : Int), i < n → ys.length = n → 0 ≤ v → v + c ≤ B → ∀ r, Ev (fun k => L k (ys.set i (val v)) (v + c) ((i + 1 : Nat) : Int)) r → Ev (fun k => L k ys v (i : Int)) r)
    (he : ∀ (ys : List β) (v : Int), ys.length = n → Ev (fun k => L k ys v (n : Int)) (v, ys)) : ∀ (d i : Nat) (ys : List β) (v : Int), i + d = n → ys.length = n → 0 ≤ v → v + c * (d : Int) ≤ B →
    Ev (fun k => L k ys v (i : Int)) (v + c * (d : Int), ys.take i ++ marks val c v d) := by
  intro d
  induction d with
  | zero =>
    intro i ys v h hl _ _
    obtain rfl : i = n := by omega
    have := he ys v hl
    simpa [marks, List.take_of_length_le (show ys.length ≤ i by omega)] using this
  | succ d ih =>
    intro i ys v h hl hv hb
    have e : v + c * ((d + 1 : Nat) : Int) = v + c + c * (d : Int) := by
      rw [Int.natCast_add, Int.mul_add, Int.natCast_one, Int.mul_one]; omega
    have hcd : 0 ≤ c * (d : Int) := Int.mul_nonneg hc (by omega)
    rw [e] at hb ⊢
    refine hs i ys v (by omega) hl hv (by omega) _ ?_
    have := ih (i + 1) (ys.set i (val v)) (v + c) (by omega) (by simpa using hl) (by omega) hb
    rw [take_at (by simp; omega), List.take_set_of_le (by omega)] at this
    simpa [marks] using this
theorem held_rows {β : Type} (L : Nat → Int → Int → Option Int) (val : Int → β) (c : Int) (x : List β) (B : Int) (hc : 0 ≤ c)
    (hs : ∀ (i : Nat) (v : Int) (h : i < x.length), x[i] = val v → 0 ≤ v → v + c ≤ B → ∀ r, Ev (fun k => L k (v + c) ((i + 1 : Nat) : Int)) r → Ev (fun k => L k v (i : Int)) r)
    (he : ∀ v : Int, Ev (fun k => L k v (x.length : Int)) v) : ∀ (d i : Nat) (v : Int), i + d = x.length → 0 ≤ v → v + c * (d : Int) ≤ B → x.drop i = marks val c v d →
    Ev (fun k => L k v (i : Int)) (v + c * (d : Int)) := by
  intro d
  induction d with
  | zero =>
    intro i v h _ _ _
    obtain rfl : i = x.length := by omega
    simpa using he v
  | succ d ih =>
    intro i v h hv hb hd
    have e : v + c * ((d + 1 : Nat) : Int) = v + c + c * (d : Int) := by
      rw [Int.natCast_add, Int.mul_add, Int.natCast_one, Int.mul_one]; omega
    have hcd : 0 ≤ c * (d : Int) := Int.mul_nonneg hc (by omega)
    rw [e] at hb ⊢
    have hi : i < x.length := by omega
    rw [drop_at hi] at hd
    simp only [marks, List.cons.injEq] at hd
    exact hs i v hi hd.1 hv (by omega) _ (ih (i + 1) (v + c) (by omega) (by omega) hb hd.2)
theorem strOne (x : Int) : (strOfNums [x]).size = 1 := rfl
theorem markText_loop : ∀ (d : Nat) (v : Int) (acc : ByteArray), 0 ≤ v → v ≤ d → acc.size + d ≤ 4611686018427387904 → ∃ t, Ev (fun k => laws_markText.l0 k v acc) t := by
  intro d
  induction d with
  | zero =>
    intro v acc h0 h1 hb
    apply exs
    simp only [laws_markText.l0]
    exact exn_ (by omega) (exp_ (by omega) (exc _))
  | succ d ih =>
    intro v acc h0 h1 hb
    apply exs
    simp only [laws_markText.l0]
    by_cases h : v > 0
    · refine exp_ h (exv rfl (exp_ (by rw [strOne]; omega) ?_))
      have e : wrap64 (Int.tdiv v 10) = v / 10 := by
        rw [Int.tdiv_eq_ediv_of_nonneg h0]
        unfold wrap64; omega
      rw [e]
      exact ih _ _ (by omega) (by omega) (by rw [ByteArray.size_append, strOne]; omega)
    · exact exn_ h (exp_ (by omega) (exc _))
theorem markText_ex (v : Int) (h0 : 0 ≤ v) (h1 : v ≤ 1152921504606846976) : ∃ t, Ev (fun k => laws_markText.f k v) t := by
  unfold laws_markText.f
  refine exi (exc _) (markText_loop v.toNat v _ h0 (by omega) ?_)
  have : (⟨#[]⟩ : ByteArray).size = 0 := rfl
  omega
/-- The text of a mark. -/
noncomputable def mt (v : Int) : ByteArray := Classical.epsilon fun t => Ev (fun k => laws_markText.f k v) t
theorem mt_ev (v : Int) (h0 : 0 ≤ v) (h1 : v ≤ 1152921504606846976) : Ev (fun k => laws_markText.f k v) (mt v) := Classical.epsilon_spec (markText_ex v h0 h1)
theorem wadd {v : Int} {n : Int} (h0 : 0 ≤ v) (h1 : v ≤ 1152921504606846976) (hn : 0 ≤ n) (hn2 : n ≤ 2) : wrap64 (v + n) = v + n := by unfold wrap64; omega
theorem markStrs_ev (x : List ByteArray) (v : Int) (hx : x.length ≤ 17592186044416) (h0 : 0 ≤ v) (h1 : v ≤ 17592186044416) : Ev (fun k => laws_markStringS.f k x v) (v + 1 * (x.length : Int), marks mt 1 v x.length) := by
  unfold laws_markStringS.f
  have := mark_rows (fun k ys v i => laws_markStringS.l0 k ys v i) mt 1 x.length 1152921504606846976 (by omega) (fun i ys v hi hl hv hb r hr => by
    apply evsucc
    simp only [laws_markStringS.l0]
    refine evp (by omega) (evb (mt_ev v hv (by omega)) (evp (by omega) ?_))
    rw [wsucc hi (by omega), wadd hv (by omega) (by omega) (by omega), Int.toNat_natCast]
    exact hr) (fun ys v hl => by
    apply evsucc
    simp only [laws_markStringS.l0]
    exact evn (by omega) (evc fun _ => rfl)) x.length 0 x v (by omega) rfl h0 (by omega)
  simpa using this
theorem heldStrs_ev (n : Nat) (v : Int) (hx : n ≤ 17592186044416) (h0 : 0 ≤ v) (h1 : v ≤ 17592186044416) : Ev (fun k => laws_heldStringS.f k (marks mt 1 v n) v) (v + 1 * (n : Int)) := by
  unfold laws_heldStringS.f
  have hl := marks_len mt 1 n v
  obtain ⟨x, hxe⟩ : ∃ x, x = marks mt 1 v n := ⟨_, rfl⟩
  rw [← hxe] at hl ⊢
  have := held_rows (fun k v i => laws_heldStringS.l0 k x v i) mt 1 x 1152921504606846976 (by omega) (fun i v hi he hv hb r hr => by
    apply evsucc
    simp only [laws_heldStringS.l0]
    refine evp (by omega) (evp (by omega) (evb (mt_ev v hv (by omega)) (evp (by rw [rdStr_at hi, he]) ?_)))
    rw [wsucc hi (by omega), wadd hv (by omega) (by omega) (by omega)]
    exact hr) (fun v => by
    apply evsucc
    simp only [laws_heldStringS.l0]
    exact evn (by omega) (evc fun _ => rfl)) x.length 0 v (by omega) h0 (by omega) (by rw [hl]; simpa using hxe)
  rw [hl] at this
  exact this
noncomputable def mp (v : Int) : S55 := ⟨v, mt (v + 1)⟩
theorem markPends_ev (x : List S55) (v : Int) (hx : x.length ≤ 17592186044416) (h0 : 0 ≤ v) (h1 : v ≤ 35184372088832) : Ev (fun k => laws_markPendingS.f k x v) (v + 2 * (x.length : Int), marks mp 2 v x.length) := by
  unfold laws_markPendingS.f
  have := mark_rows (fun k ys v i => laws_markPendingS.l0 k ys v i) mp 2 x.length 1152921504606846976 (by omega) (fun i ys v hi hl hv hb r hr => by
    apply evsucc
    simp only [laws_markPendingS.l0]
    refine evp (by omega) (evp (by omega) (evk rfl ?_))
    rw [wsucc hi (by omega), wadd hv (by omega) (show (0 : Int) ≤ 1 by omega) (by omega), wadd (show 0 ≤ v + 1 by omega) (by omega) (by omega) (by omega), Int.toNat_natCast]
    refine evb (mt_ev (v + 1) (by omega) (by omega)) ?_
    rw [show v + 1 + 1 = v + 2 by omega, rdP_at (l := ys.set i ⟨v, (rd_T55 ys i).f1⟩) (by rw [List.length_set]; omega)]
    simpa [mp] using hr) (fun ys v hl => by
    apply evsucc
    simp only [laws_markPendingS.l0]
    exact evn (by omega) (evc fun _ => rfl)) x.length 0 x v (by omega) rfl h0 (by omega)
  simpa using this
theorem heldPends_ev (n : Nat) (v : Int) (hx : n ≤ 17592186044416) (h0 : 0 ≤ v) (h1 : v ≤ 35184372088832) : Ev (fun k => laws_heldPendingS.f k (marks mp 2 v n) v) (v + 2 * (n : Int)) := by
  unfold laws_heldPendingS.f
  have hl := marks_len mp 2 n v
  obtain ⟨x, hxe⟩ : ∃ x, x = marks mp 2 v n := ⟨_, rfl⟩
  rw [← hxe] at hl ⊢
  have := held_rows (fun k v i => laws_heldPendingS.l0 k x v i) mp 2 x 1152921504606846976 (by omega) (fun i v hi he hv hb r hr => by
    apply evsucc
    simp only [laws_heldPendingS.l0]
    rw [wsucc hi (by omega), wadd hv (by omega) (show (0 : Int) ≤ 1 by omega) (by omega), wadd (show 0 ≤ v + 1 by omega) (by omega) (by omega) (by omega), rdP_at hi, he]
    refine evp (by omega) (evp (by omega) (evp rfl (evb (mt_ev (v + 1) (by omega) (by omega)) (evp rfl ?_))))
    rw [show v + 1 + 1 = v + 2 by omega]
    exact hr) (fun v => by
    apply evsucc
    simp only [laws_heldPendingS.l0]
    exact evn (by omega) (evc fun _ => rfl)) x.length 0 v (by omega) h0 (by omega) (by rw [hl]; simpa using hxe)
  rw [hl] at this
  exact this
/-- The marks of a disk. -/
noncomputable def mdS (s : List ByteArray) : List ByteArray := marks mt 1 1 s.length
noncomputable def mdP (s : List ByteArray) (p : List S55) : List S55 := marks mp 2 (1 + 1 * (s.length : Int)) p.length
def mdN (s : List ByteArray) (p : List S55) : Int := 1 + 1 * (s.length : Int) + 2 * (p.length : Int)
theorem markDisk_ev (s : List ByteArray) (p : List S55) (hs : s.length ≤ 8796093021968) (hp : p.length ≤ 5864062014639) : Ev (fun k => laws_markDisk.f k s p 1) (mdN s p, mdS s, mdP s p) := by
  unfold laws_markDisk.f
  exact evb (markStrs_ev s 1 (by omega) (by omega) (by omega)) (evb (markPends_ev p _ (by omega) (by omega) (by omega)) (evc fun _ => rfl))
theorem heldDisk_ev (s : List ByteArray) (p : List S55) (hs : s.length ≤ 8796093021968) (hp : p.length ≤ 5864062014639) : Ev (fun k => laws_heldDisk.f k (mdS s) (mdP s p) 1) (mdN s p) := by
  unfold laws_heldDisk.f mdS mdP
  refine evb (heldStrs_ev s.length 1 (by omega) (by omega) (by omega)) (evn (by omega) (evb (heldPends_ev p.length _ (by omega) (by omega) (by omega)) (evn (by omega) (evc fun _ => rfl))))
theorem mdN_pos (s : List ByteArray) (p : List S55) : ¬ mdN s p < 0 := by unfold mdN; omega
theorem wait_of {s : List ByteArray} {p : List S55} (h : diskB s p = true) : ∀ x ∈ p, (0 ≤ x.f0 ∧ x.f0 ≤ (s.length : Int) - 1) ∧ x.f1.size = 64 := by
  intro x hx
  unfold diskB at h
  simp only [Bool.and_eq_true, Bool.not_eq_true', List.any_eq_false] at h
  have := h.2 x hx
  simp only [Bool.not_eq_true', Bool.not_eq_false, impl_DiskOk.wait, Bool.and_eq_true, decide_eq_true_eq, beq_iff_eq] at this
  exact ⟨this.1, by omega⟩
theorem lens_of {s : List ByteArray} {p : List S55} (h : diskB s p = true) : (1 ≤ s.length ∧ s.length ≤ 1200) ∧ p.length ≤ 600 ∧ ∀ x ∈ s, x.size = 64 := by
  unfold diskB at h
  simp only [Bool.and_eq_true, decide_eq_true_eq, List.all_eq_true, beq_iff_eq] at h
  refine ⟨⟨by omega, by omega⟩, by omega, fun x hx => ?_⟩
  have := h.1.2 x hx
  omega
/-- Every element of a list lies above the one before it. -/
def chn : List Int → Bool
  | [] => true
  | [_] => true
  | x :: y :: r => decide (x < y) && chn (y :: r)
theorem chn_pairwise : ∀ l : List Int, chn l = true → l.Pairwise (· < ·)
  | [], _ => List.Pairwise.nil
  | [x], _ => by simp
  | x :: y :: r, h => by
    simp only [chn, Bool.and_eq_true] at h
    have ih := chn_pairwise (y :: r) h.2
    have hxy : x < y := of_decide_eq_true h.1
    refine List.pairwise_cons.2 ⟨fun a ha => ?_, ih⟩
    rcases List.mem_cons.1 ha with rfl | ha
    · exact hxy
    · have := (List.pairwise_cons.1 ih).1 a ha; omega
def inG (lo hi : Int) (l : List Int) : Bool := l.all fun n => decide (lo ≤ n ∧ n ≤ hi)
theorem chn_step {l : List Int} {j : Nat} (h : j + 1 < l.length) : chn (l.drop j) = (decide (l[j] < l[j + 1]) && chn (l.drop (j + 1))) := by
  rw [drop_at (show j < l.length by omega), drop_at h]
  rfl
theorem chn_end {l : List Int} {j : Nat} (h : l.length ≤ j + 1) : chn (l.drop j) = true := by
  have hl : (l.drop j).length ≤ 1 := by rw [List.length_drop]; omega
  match hm : l.drop j with
  | [] => rfl
  | [x] => rfl
  | x :: y :: r => rw [hm] at hl; simp at hl
theorem wpred {j : Nat} (h : j ≤ 1048576) : wrap64 (((j + 1 : Nat) : Int) - 1) = (j : Int) := by unfold wrap64; omega
theorem incr_loop (l : List Int) (hn : l.length ≤ 1048576) : ∀ (d j : Nat), l.length ≤ j + 1 + d → j ≤ l.length →
    Ev (fun k => impl_increasing.l0 k l ((j + 1 : Nat) : Int)) (chn (l.drop j)) := by
  intro d
  induction d with
  | zero =>
    intro j h hj
    apply evsucc
    simp only [impl_increasing.l0]
    exact evn (by omega) (evc fun _ => by rw [chn_end (by omega)])
  | succ d ih =>
    intro j h hj
    apply evsucc
    simp only [impl_increasing.l0]
    by_cases h1 : j + 1 < l.length
    · refine evp (by omega) (evp (by omega) ?_)
      rw [wpred (by omega), wsucc h1 (by omega), rd_at h1, rd_at (show j < l.length by omega), chn_step h1]
      refine evp (by omega) (evp (by omega) ?_)
      by_cases h2 : l[j + 1] ≤ l[j]
      · exact evp h2 (evc fun _ => by rw [decide_eq_false (by omega)]; rfl)
      · refine evn h2 ?_
        rw [decide_eq_true (by omega), Bool.true_and]
        exact ih (j + 1) (by omega) (by omega)
    · exact evn (by omega) (evc fun _ => by rw [chn_end (by omega)])
theorem incr_ev (l : List Int) (hn : l.length ≤ 1048576) : Ev (fun k => impl_increasing.f k l) (chn l) := by
  have := incr_loop l hn l.length 0 (by omega) (by omega)
  simpa [impl_increasing.f] using this
theorem rises_loop (lo hi : Int) (l : List Int) (hn : l.length ≤ 1048576) : ∀ (d j : Nat), j + 1 + d = l.length →
    Ev (fun k => spec_l00Rises.l0 k l lo hi ((j + 1 : Nat) : Int)) (inG lo hi (l.drop (j + 1)) && chn (l.drop j)) := by
  intro d
  induction d with
  | zero =>
    intro j h
    apply evsucc
    simp only [spec_l00Rises.l0]
    refine evn (by omega) (evc fun _ => ?_)
    rw [chn_end (by omega), List.drop_of_length_le (by omega)]
    rfl
  | succ d ih =>
    intro j h
    have h1 : j + 1 < l.length := by omega
    apply evsucc
    simp only [spec_l00Rises.l0]
    refine evp (by omega) (evp (by omega) (evk (l00In_eq _ _ _) ?_))
    rw [wpred (by omega), wsucc h1 (by omega), rd_at h1, rd_at (show j < l.length by omega), chn_step h1, drop_at h1]
    by_cases hr : lo ≤ l[j + 1] ∧ l[j + 1] ≤ hi
    · refine evp (by simpa using hr) (evp (by omega) (evp (by omega) (evp (by omega) ?_)))
      by_cases h2 : l[j] ≥ l[j + 1]
      · exact evp h2 (evc fun _ => by rw [decide_eq_false (by omega), Bool.false_and, Bool.and_false])
      · refine evn h2 ?_
        rw [decide_eq_true (show l[j] < l[j + 1] by omega), Bool.true_and]
        have := ih (j + 1) (by omega)
        rw [drop_at h1] at this
        simp only [inG, List.all_cons, decide_eq_true hr, Bool.true_and] at this ⊢
        exact this
    · exact evn (by simpa using hr) (evc fun _ => by simp only [inG, List.all_cons, decide_eq_false hr, Bool.false_and])
theorem rises_ev (lo hi : Int) (l : List Int) (hn : l.length ≤ 1048576) : Ev (fun k => spec_l00Rises.f k l lo hi) (inG lo hi l && chn l) := by
  unfold spec_l00Rises.f
  apply evsucc
  simp only [spec_l00Rises.l0]
  cases l with
  | nil => exact evn (by simp) (evc fun _ => rfl)
  | cons x r =>
    refine evp (by rw [List.length_cons]; omega) (evp (by omega) (evk (l00In_eq _ _ _) ?_))
    have hx : rd (x :: r) 0 = x := rfl
    rw [hx]
    by_cases hr : lo ≤ x ∧ x ≤ hi
    · refine evp (by simpa using hr) (evn (by omega) ?_)
      have := rises_loop lo hi (x :: r) hn r.length 0 (by simp [Nat.add_comm])
      rw [show wrap64 (0 + 1) = ((0 + 1 : Nat) : Int) by unfold wrap64; omega]
      simp only [inG, List.all_cons, decide_eq_true hr, Bool.true_and, List.drop_succ_cons, List.drop_zero] at this ⊢
      exact this
    · exact evn (by simpa using hr) (evc fun _ => by simp only [inG, List.all_cons, decide_eq_false hr, Bool.false_and])
/-- What a write that was kept leaves: torn, if it is the last. -/
def tornS (last : Bool) (torn : Int) (b cur : ByteArray) : ByteArray := if last = true then b.extract 0 torn.toNat ++ cur.extract torn.toNat cur.size else b
def isLast (n i : Nat) (torn : Int) : Bool := decide (i + 1 = n) && decide (torn ≥ 0)
def lostFrom (p : List S55) (torn : Int) (n : Nat) : Nat → List Int → List ByteArray → List ByteArray
  | _, [], out => out
  | i, q :: r, out => lostFrom p torn n (i + 1) r (out.set (rd_T55 p q).f0.toNat (tornS (isLast n i torn) torn (rd_T55 p q).f1 (rdOf ByteArray.empty out (rd_T55 p q).f0)))
theorem lost_len (p : List S55) (torn : Int) (n : Nat) : ∀ (l : List Int) (i : Nat) (out : List ByteArray), (lostFrom p torn n i l out).length = out.length
  | [], _, _ => rfl
  | q :: r, i, out => by simp [lostFrom, lost_len p torn n r]
theorem rdStr_int {l : List ByteArray} {i : Int} (h0 : 0 ≤ i) (h : i < (l.length : Int)) : ∃ hi : i.toNat < l.length, rdOf ByteArray.empty l i = l[i.toNat] := by
  have hi : i.toNat < l.length := by omega
  refine ⟨hi, ?_⟩
  have := rdStr_at hi
  rwa [Int.toNat_of_nonneg h0] at this
theorem rdP_int {l : List S55} {i : Int} (h0 : 0 ≤ i) (h : i < (l.length : Int)) : rd_T55 l i ∈ l := by
  have hi : i.toNat < l.length := by omega
  have := rdP_at hi
  rw [Int.toNat_of_nonneg h0] at this
  rw [this]
  exact List.getElem_mem hi
theorem torn_size {last : Bool} {torn : Int} {b cur : ByteArray} (ht : torn ≤ 64) (hl : last = true → 0 ≤ torn) (hb : b.size = 64) (hc : cur.size = 64) : (tornS last torn b cur).size = 64 := by
  unfold tornS
  cases last with
  | false => simpa using hb
  | true =>
    have := hl rfl
    simp only [if_true, ByteArray.size_append, ByteArray.size_extract, hb, hc]
    omega
theorem whole_eq {b cur : ByteArray} (hb : b.size = 64) (hc : cur.size = 64) : b.extract 0 64 ++ cur.extract 64 cur.size = b := by
  have h1 : b.extract 0 64 = b := by rw [← hb]; simp
  have h2 : cur.extract 64 cur.size = ByteArray.empty := by rw [hc]; simp
  rw [h1, h2]
  simp
theorem mem_set64 {out : List ByteArray} {i : Nat} {v : ByteArray} (h : ∀ x ∈ out, x.size = 64) (hv : v.size = 64) : ∀ x ∈ out.set i v, x.size = 64 := by
  intro x hx
  rcases List.mem_or_eq_of_mem_set hx with hx | rfl
  · exact h x hx
  · exact hv
theorem lostSpec_loop (s : List ByteArray) (p : List S55) (keep : List Int) (torn : Int) (hk : keep.length ≤ 1048576) (hp : p.length ≤ 600) (ht : torn ≤ 64) (hq : ∀ q ∈ keep, 0 ≤ q ∧ q < (p.length : Int))
    (hw : ∀ x ∈ p, (0 ≤ x.f0 ∧ x.f0 ≤ (s.length : Int) - 1) ∧ x.f1.size = 64) : ∀ (d i : Nat) (out : List ByteArray), i + d = keep.length → out.length = s.length → (∀ x ∈ out, x.size = 64) →
    Ev (fun k => spec_PowerLoss.l0 k keep torn (i : Int) s p out) (lostFrom p torn keep.length i (keep.drop i) out, [], 0) := by
  intro d
  induction d with
  | zero =>
    intro i out h ho _
    apply evsucc
    simp only [spec_PowerLoss.l0]
    refine evn (by omega) (evc fun _ => ?_)
    rw [List.drop_of_length_le (by omega)]
    rfl
  | succ d ih =>
    intro i out h ho h64
    have hi : i < keep.length := by omega
    have hqi := hq keep[i] (List.getElem_mem hi)
    have hx := hw _ (rdP_int hqi.1 hqi.2)
    apply evsucc
    simp only [spec_PowerLoss.l0]
    rw [wsucc hi (by omega), rd_at hi, drop_at hi, show wrap64 ((keep.length : Int) - 1) = (keep.length : Int) - 1 by unfold wrap64; omega]
    simp only [lostFrom]
    generalize rd_T55 p keep[i] = P at hx
    obtain ⟨hj, hcur⟩ := rdStr_int (l := out) (i := P.f0) (by omega) (by omega)
    have hc : (rdOf ByteArray.empty out P.f0).size = 64 := by rw [hcur]; exact h64 _ (List.getElem_mem hj)
    refine evp (by omega) (evp (by omega) (evp hqi.1 (evp hqi.2 ?_)))
    by_cases hl : i + 1 = keep.length
    · refine evp (by omega) ?_
      by_cases hn : torn ≥ 0
      · have hL : isLast keep.length i torn = true := by unfold isLast; simp [hl, hn]
        have := ih (i + 1) (out.set P.f0.toNat (tornS true torn P.f1 (rdOf ByteArray.empty out P.f0))) (by omega) (by simpa using ho) (mem_set64 h64 (torn_size ht (fun _ => hn) hx.2 hc))
        rw [hL]
        refine evp hn (evp hn (evp (by omega) (evp (by omega) (evp (by omega) (evp (by omega) (evp ?_ this))))))
        simp only [ByteArray.size_extract]
        omega
      · have hL : isLast keep.length i torn = false := by unfold isLast; simp [hn]
        have := ih (i + 1) (out.set P.f0.toNat (tornS false torn P.f1 (rdOf ByteArray.empty out P.f0))) (by omega) (by simpa using ho) (mem_set64 h64 (torn_size ht (fun h => by cases h) hx.2 hc))
        rw [hL]
        exact evn hn (evp (by omega) (evp (by omega) this))
    · have hL : isLast keep.length i torn = false := by unfold isLast; simp [hl]
      have := ih (i + 1) (out.set P.f0.toNat (tornS false torn P.f1 (rdOf ByteArray.empty out P.f0))) (by omega) (by simpa using ho) (mem_set64 h64 (torn_size ht (fun h => by cases h) hx.2 hc))
      rw [hL]
      exact evn (by omega) (evp (by omega) (evp (by omega) this))
theorem lostImpl_loop (s : List ByteArray) (p : List S55) (keep : List Int) (torn : Int) (hk : keep.length ≤ 1048576) (hp : p.length ≤ 600) (ht : torn ≤ 64) (hq : ∀ q ∈ keep, 0 ≤ q ∧ q < (p.length : Int))
    (hw : ∀ x ∈ p, (0 ≤ x.f0 ∧ x.f0 ≤ (s.length : Int) - 1) ∧ x.f1.size = 64) : ∀ (d i : Nat) (out : List ByteArray), i + d = keep.length → out.length = s.length → (∀ x ∈ out, x.size = 64) →
    Ev (fun k => impl_Disk_lost.l0 k keep torn out keep (keep.length : Int) (i : Int) s p) (lostFrom p torn keep.length i (keep.drop i) out, []) := by
  intro d
  induction d with
  | zero =>
    intro i out h ho _
    apply evsucc
    simp only [impl_Disk_lost.l0]
    refine evn (by omega) (evc fun _ => ?_)
    rw [List.drop_of_length_le (by omega)]
    rfl
  | succ d ih =>
    intro i out h ho h64
    have hi : i < keep.length := by omega
    have hqi := hq keep[i] (List.getElem_mem hi)
    have hx := hw _ (rdP_int hqi.1 hqi.2)
    apply evsucc
    simp only [impl_Disk_lost.l0]
    rw [wsucc hi (by omega), rd_at hi, drop_at hi, show wrap64 ((keep.length : Int) - 1) = (keep.length : Int) - 1 by unfold wrap64; omega]
    simp only [lostFrom]
    generalize rd_T55 p keep[i] = P at hx
    obtain ⟨hj, hcur⟩ := rdStr_int (l := out) (i := P.f0) (by omega) (by omega)
    have hc : (rdOf ByteArray.empty out P.f0).size = 64 := by rw [hcur]; exact h64 _ (List.getElem_mem hj)
    have hwh := whole_eq hx.2 hc
    refine evp (by omega) (evp (by omega) (evp (by omega) (evp hqi.1 (evp hqi.2 ?_))))
    by_cases hl : i + 1 = keep.length
    · refine evp (by omega) ?_
      by_cases hn : torn ≥ 0
      · have hL : isLast keep.length i torn = true := by unfold isLast; simp [hl, hn]
        have := ih (i + 1) (out.set P.f0.toNat (tornS true torn P.f1 (rdOf ByteArray.empty out P.f0))) (by omega) (by simpa using ho) (mem_set64 h64 (torn_size ht (fun _ => hn) hx.2 hc))
        rw [hL]
        refine evp hn (evp hn (evp (by omega) (evp (by omega) (evp (by omega) (evp (by omega) (evp ?_ this))))))
        simp only [ByteArray.size_extract]
        omega
      · have hL : isLast keep.length i torn = false := by unfold isLast; simp [hn]
        have := ih (i + 1) (out.set P.f0.toNat (tornS false torn P.f1 (rdOf ByteArray.empty out P.f0))) (by omega) (by simpa using ho) (mem_set64 h64 (torn_size ht (fun h => by cases h) hx.2 hc))
        rw [hL]
        rw [hwh]
        refine evn hn (evp (by omega) (evp (by omega) (evp (by omega) (evp (by omega) (evp (by omega) (evp ?_ this))))))
        simp only [ByteArray.size_extract]
        omega
    · have hL : isLast keep.length i torn = false := by unfold isLast; simp [hl]
      have := ih (i + 1) (out.set P.f0.toNat (tornS false torn P.f1 (rdOf ByteArray.empty out P.f0))) (by omega) (by simpa using ho) (mem_set64 h64 (torn_size ht (fun h => by cases h) hx.2 hc))
      rw [hL]
      rw [hwh]
      refine evn (by omega) (evp (by omega) (evp (by omega) (evp (by omega) (evp (by omega) (evp (by omega) (evp ?_ this))))))
      simp only [ByteArray.size_extract]
      omega
/-- What a power loss leaves, and its code. -/
def lossOk (p : List S55) (keep : List Int) (torn : Int) : Bool := (inG 0 ((p.length : Int) - 1) keep && chn keep) && decide (-1 ≤ torn ∧ torn ≤ 64)
def powerR (s : List ByteArray) (p : List S55) (keep : List Int) (torn : Int) : List ByteArray × Int :=
  if diskB s p = true then (if lossOk p keep torn = true then (lostFrom p torn keep.length 0 keep s, 0) else ([], 2)) else ([], 1)
theorem powerR_len (s : List ByteArray) (p : List S55) (keep : List Int) (torn : Int) : (powerR s p keep torn).1.length ≤ 1200 := by
  unfold powerR
  by_cases h : diskB s p = true
  · rw [if_pos h]
    by_cases h2 : lossOk p keep torn = true
    · rw [if_pos h2, lost_len]; exact (lens_of h).1.2
    · rw [if_neg h2]; simp
  · rw [if_neg h]; simp
theorem keep_of {p : List S55} {keep : List Int} {torn : Int} (h : lossOk p keep torn = true) : (∀ q ∈ keep, 0 ≤ q ∧ q < (p.length : Int)) ∧ torn ≤ 64 := by
  unfold lossOk at h
  simp only [Bool.and_eq_true, decide_eq_true_eq] at h
  refine ⟨fun q hq => ?_, h.2.2⟩
  have := of_decide_eq_true (List.all_eq_true.1 h.1.1 q hq)
  omega
theorem powerR_bad {s : List ByteArray} {p : List S55} {keep : List Int} {torn : Int} (h : ¬ diskB s p = true) : powerR s p keep torn = ([], 1) := by unfold powerR; rw [if_neg h]
theorem powerR_no {s : List ByteArray} {p : List S55} {keep : List Int} {torn : Int} (h : diskB s p = true) (h2 : ¬ lossOk p keep torn = true) : powerR s p keep torn = ([], 2) := by unfold powerR; rw [if_pos h, if_neg h2]
theorem powerR_yes {s : List ByteArray} {p : List S55} {keep : List Int} {torn : Int} (h : diskB s p = true) (h2 : lossOk p keep torn = true) : powerR s p keep torn = (lostFrom p torn keep.length 0 keep s, 0) := by unfold powerR; rw [if_pos h, if_pos h2]
theorem powerSpec (s : List ByteArray) (p : List S55) (keep : List Int) (torn : Int) (hs : s.length ≤ 8796093021968) (hp : p.length ≤ 5864062014639) (hk : keep.length ≤ 1048576) :
    Ev (fun k => spec_PowerLoss.f k s p keep torn) ((powerR s p keep torn).1, [], (powerR s p keep torn).2) := by
  unfold spec_PowerLoss.f
  refine evb (diskSpec s p hs hp) ?_
  by_cases h : diskB s p = true
  · have hl := lens_of h
    rw [show wrap64 ((p.length : Int) - 1) = (p.length : Int) - 1 by unfold wrap64; omega]
    refine evp h (evb (rises_ev 0 ((p.length : Int) - 1) keep hk) ?_)
    cases hr : (inG 0 ((p.length : Int) - 1) keep && chn keep) with
    | true =>
      refine evp rfl (evk (l00In_eq _ _ _) (evsucc ?_))
      simp only [spec_PowerLoss.j0]
      by_cases ht : -1 ≤ torn ∧ torn ≤ 64
      · have hlo : lossOk p keep torn = true := by unfold lossOk; rw [hr, decide_eq_true ht]; rfl
        have := lostSpec_loop s p keep torn hk hl.2.1 ht.2 (keep_of hlo).1 (wait_of h) keep.length 0 s (by omega) rfl hl.2.2
        rw [powerR_yes h hlo]
        refine evn (by rw [decide_eq_true ht]; simp) (evk rfl (evp (by simp; omega) ?_))
        simpa using this
      · have hlo : ¬ lossOk p keep torn = true := by unfold lossOk; rw [decide_eq_false ht]; simp
        rw [powerR_no h hlo]
        exact evp (by rw [decide_eq_false ht]; rfl) (evc fun _ => rfl)
    | false =>
      have hlo : ¬ lossOk p keep torn = true := by unfold lossOk; rw [hr]; simp
      refine evn (by simp) (evsucc ?_)
      simp only [spec_PowerLoss.j0]
      rw [powerR_no h hlo]
      exact evp (by trivial) (evc fun _ => rfl)
  · rw [powerR_bad h]
    exact evn h (evc fun _ => rfl)
theorem powerImpl (s : List ByteArray) (p : List S55) (keep : List Int) (torn : Int) (hs : s.length ≤ 8796093021968) (hp : p.length ≤ 5864062014639) (hk : keep.length ≤ 1048576) :
    Ev (fun k => impl_PowerLoss.f k s p keep torn) ((powerR s p keep torn).1, [], (powerR s p keep torn).2) := by
  unfold impl_PowerLoss.f
  refine evk (diskImpl s p) ?_
  by_cases h : diskB s p = true
  · have hl := lens_of h
    have hok : Ev (fun k => impl_Disk_lossOk.f k s p keep torn) (lossOk p keep torn) := by
      unfold impl_Disk_lossOk.f lossOk
      rw [show wrap64 ((p.length : Int) - 1) = (p.length : Int) - 1 by unfold wrap64; omega]
      refine evb (incr_ev keep hk) ?_
      have e : (!keep.any fun n => !decide ((0 : Int) ≤ n ∧ n ≤ (p.length : Int) - 1)) = inG 0 ((p.length : Int) - 1) keep := by
        unfold inG
        rw [List.not_any_eq_all_not]
        simp
      cases hc : chn keep with
      | true =>
        refine evp rfl (evk (a := inG 0 ((p.length : Int) - 1) keep) (by unfold impl_allBetween.f; rw [e]) ?_)
        cases hg : inG 0 ((p.length : Int) - 1) keep with
        | true => exact evp rfl (evk (between_eq _ _ _) (evc fun _ => by simp))
        | false => exact evn (by simp) (evc fun _ => by simp)
      | false => exact evn (by simp) (evc fun _ => by simp)
    refine evp h (evb hok ?_)
    by_cases hlo : lossOk p keep torn = true
    · have := lostImpl_loop s p keep torn hk hl.2.1 (keep_of hlo).2 (keep_of hlo).1 (wait_of h) keep.length 0 s (by omega) rfl hl.2.2
      rw [powerR_yes h hlo]
      refine evp hlo (evb (a := (lostFrom p torn keep.length 0 keep s, [])) ?_ (evc fun _ => rfl))
      unfold impl_Disk_lost.f slices_Clone_string_string.f
      refine evk (a := s) (if_pos (by omega)) ?_
      simpa using this
    · rw [powerR_no h hlo]
      exact evn hlo (evc fun _ => rfl)
  · rw [powerR_bad h]
    exact evn h (evc fun _ => rfl)
theorem FnExactPowerLoss : Stmt.FnExactPowerLoss.PureS := by
  intro s p keep torn ⟨_, hs, _⟩ ⟨_, hp, _⟩ ⟨_, hkk, _⟩ _
  apply ev_ex
  unfold laws_FnExactPowerLoss.f
  by_cases g : (keep.length : Int) > 1048576
  · exact evp g (evc fun _ => rfl)
  refine evn g ?_
  have hk : keep.length ≤ 1048576 := by omega
  obtain ⟨v, hv⟩ := szDisk_ex s p 1048576 (by omega) (by omega)
  refine evb hv ?_
  by_cases h : v < 0
  · exact evp h (evc fun _ => rfl)
  · have ht := toDisk_ev s p (by omega) (by omega)
    have hti := toInts_ev keep (by omega)
    have hp' : (p.map pend).length ≤ 5864062014639 := by rw [List.length_map]; omega
    have hs' : s.length ≤ 8796093021968 := by omega
    have hf := powerR_len s (p.map pend) keep torn
    have h1 := powerSpec s (p.map pend) keep torn hs' hp' hk
    have h2 := powerImpl s (p.map pend) keep torn hs' hp' hk
    generalize powerR s (p.map pend) keep torn = R at hf h1 h2
    obtain ⟨G, c⟩ := R
    have he := eqDisk_ev G [] (by simp at hf; omega) (by simp)
    have hex := eqDisk_ev s (p.map pend) hs' hp'
    have hmg := markDisk_ev G [] (by simp at hf; omega) (by simp)
    have hhg := heldDisk_ev G [] (by simp at hf; omega) (by simp)
    have hj2 : Ev (fun k => laws_FnExactPowerLoss.j2 k (mdN G []) (c != c) (mdS G) (mdP G [])) true := by
      apply evsucc
      simp only [laws_FnExactPowerLoss.j2]
      exact evn (by simp) (evb hhg (evn (mdN_pos _ _) (evp rfl (evc fun _ => rfl))))
    have hj1 : Ev (fun k => laws_FnExactPowerLoss.j1 k keep torn c (c != c) s p G [] G []) true := by
      apply evsucc
      simp only [laws_FnExactPowerLoss.j1]
      exact evn (by simp) (evb hmg (evb hhg (evn (mdN_pos _ _) (evp rfl (evb ht (evb hti (evb h2 (evb he (evp rfl hj2)))))))))
    have hmx := markDisk_ev s (p.map pend) hs' hp'
    have hmi : Ev (fun k => laws_markInt64S.f k keep (mdN s (p.map pend))) (mdN s (p.map pend) + (keep.length : Int), sq (mdN s (p.map pend)) keep.length) := by
      obtain ⟨y, hy, _, _, hd⟩ := mark_loop keep.length 0 (mdN s (p.map pend)) keep (by omega) hk (by unfold mdN; omega) (by unfold mdN; omega)
      simp only [List.drop_zero] at hd
      rw [← hd]
      simpa [laws_markInt64S.f] using hy
    have hpos : ¬ mdN s (p.map pend) + (keep.length : Int) < 0 := by have := mdN_pos s (p.map pend); omega
    have hj0 : Ev (fun k => laws_FnExactPowerLoss.j0 k keep torn c keep c (c != c) s p G [] s (p.map pend) G []) true := by
      apply evsucc
      simp only [laws_FnExactPowerLoss.j0]
      exact evn (by simp) (evb ht (evb hex (evp rfl (evb hti (evb (eqInts_ev keep (by omega)) (evp rfl (evb hmx (evb hmi (evn hpos (evb he (evp rfl hj1)))))))))))
    exact evn h (evb ht (evb hti (evb h1 (evb ht (evb hti (evb h2 (evb he (evp rfl hj0))))))))
end Go.Proofs.Ythphhklbliambaa.Pure
