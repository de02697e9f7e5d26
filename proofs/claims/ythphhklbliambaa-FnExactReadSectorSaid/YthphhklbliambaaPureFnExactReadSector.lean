/- The program's ReadSector and the reference's give one text and one code at every disk within the reach and every place, and leave the disk as it was. No other condition. -/
import Derived.Test.YthphhklbliambaaStmtFnExactReadSector
set_option linter.unusedSimpArgs false
set_option linter.unusedVariables false
namespace Go.Proofs.Ythphhklbliambaa.Pure
open Go.RowKit Go.Proofs.Ythphhklbliambaa.MFnExactReadSector Go.Proofs.YthphhklbliambaaW.PrintWords Go.Proofs.YthphhklbliambaaW.PrintLast
theorem evc {α : Type} {g : Nat → Option α} {r : α} (h : ∀ k, g k = some r) : Ev g r := ⟨0, fun k _ => h k⟩
theorem evsucc {α : Type} {g : Nat → Option α} {r : α} (h : Ev (fun k => g (k + 1)) r) : Ev g r := by
  obtain ⟨K, hK⟩ := h
  refine ⟨K + 1, fun k hk => ?_⟩
  obtain ⟨k, rfl⟩ : ∃ m, k = m + 1 := ⟨k - 1, by omega⟩
  exact hK k (by omega)
theorem evp {α : Type} {c : Prop} [Decidable c] {g f : Nat → Option α} {r : α} (hc : c) (h : Ev g r) : Ev (fun k => if c then g k else f k) r := by
  simp only [if_pos hc]; exact h
theorem evn {α : Type} {c : Prop} [Decidable c] {g f : Nat → Option α} {r : α} (hc : ¬ c) (h : Ev f r) : Ev (fun k => if c then g k else f k) r := by
  simp only [if_neg hc]; exact h
theorem evb {α β : Type} {g : Nat → Option α} {f : Nat → α → Option β} {a : α} {r : β} (h : Ev g a) (k : Ev (fun n => f n a) r) : Ev (fun n => (g n).bind (f n)) r := Ev.bind h k
theorem evk {α β : Type} {g : Option α} {f : Nat → α → Option β} {a : α} {r : β} (h : g = some a) (k : Ev (fun n => f n a) r) : Ev (fun n => g.bind (f n)) r := by subst h; exact k
theorem ev_ex {α : Type} {g : Nat → Option α} {r : α} (h : Ev g r) : ∃ k, g k = some r := by obtain ⟨K, hK⟩ := h; exact ⟨K, hK K (Nat.le_refl _)⟩
theorem wsucc {i n : Nat} (h : i < n) (hn : n ≤ 140737488351232) : wrap64 ((i : Int) + 1) = ((i + 1 : Nat) : Int) := by unfold wrap64; omega
theorem rd_at {l : List Int} {i : Nat} (h : i < l.length) : rd l (i : Int) = l[i] := by
  simp [rd, List.getD_eq_getElem?_getD, List.getElem?_eq_getElem h]
theorem drop_at {α : Type} {l : List α} {i : Nat} (h : i < l.length) : l.drop i = l[i] :: l.drop (i + 1) := List.drop_eq_getElem_cons h
theorem take_at {α : Type} {l : List α} {i : Nat} (h : i < l.length) : l.take (i + 1) = l.take i ++ [l[i]] := by
  rw [List.take_succ_eq_append_getElem h]
theorem l00In_eq (a b c : Int) : spec_l00In.f a b c = some (decide (b ≤ a ∧ a ≤ c)) := by
  unfold spec_l00In.f
  by_cases h : a ≥ b
  · have h' : b ≤ a := h
    simp [h, h']
  · have h' : ¬ b ≤ a := h
    simp [h, h']
/-- Every element of a row taken over into a row made ahead. -/
theorem to_rows {α β : Type} (L : Nat → List β → Int → Option (List β)) (conv : α → β) (xs : List α)
    (hs : ∀ (i : Nat) (ys : List β) (h : i < xs.length), ys.length = xs.length → ∀ r, Ev (fun k => L k (ys.set i (conv xs[i])) ((i + 1 : Nat) : Int)) r → Ev (fun k => L k ys (i : Int)) r)
    (he : ∀ ys, Ev (fun k => L k ys (xs.length : Int)) ys) : ∀ (d i : Nat) (ys : List β), i + d = xs.length → ys.length = xs.length → ys.take i = (xs.take i).map conv → Ev (fun k => L k ys (i : Int)) (xs.map conv) := by
  intro d
  induction d with
  | zero =>
    intro i ys h hl ht
    obtain rfl : i = xs.length := by omega
    rw [← hl, List.take_length, hl, List.take_length] at ht
    subst ht
    exact he _
  | succ d ih =>
    intro i ys h hl ht
    have hi : i < xs.length := by omega
    refine hs i ys hi hl _ (ih (i + 1) _ (by omega) (by simpa using hl) ?_)
    rw [take_at (by simp; omega), take_at hi, List.take_set_of_le (by omega), ht, List.map_append]
    simp only [List.getElem_set_self, List.map_cons, List.map_nil]
/-- A loop that asks something of each element, and goes on. -/
theorem on_rows {β : Type} {n : Nat} (L : Nat → Int → Option β) (r : β) (hs : ∀ i : Nat, i < n → Ev (fun k => L k ((i + 1 : Nat) : Int)) r → Ev (fun k => L k (i : Int)) r) (he : Ev (fun k => L k (n : Int)) r) :
    ∀ (d i : Nat), i + d = n → Ev (fun k => L k (i : Int)) r := by
  intro d
  induction d with
  | zero => intro i h; obtain rfl : i = n := by omega
            exact he
  | succ d ih => intro i h; exact hs i (by omega) (ih (i + 1) (by omega))
theorem exb {α β : Type} {g : Nat → Option α} {f : Nat → α → Option β} (h : ∃ a, Ev g a) (k : ∀ a, ∃ r, Ev (fun n => f n a) r) : ∃ r, Ev (fun n => (g n).bind (f n)) r := by
  obtain ⟨a, ha⟩ := h
  obtain ⟨r, hr⟩ := k a
  exact ⟨r, evb ha hr⟩
theorem exk {α β : Type} {g : Option α} {f : Nat → α → Option β} (h : ∃ a, g = some a) (k : ∀ a, ∃ r, Ev (fun n => f n a) r) : ∃ r, Ev (fun n => g.bind (f n)) r := by
  obtain ⟨a, rfl⟩ := h
  exact k a
theorem exi {α : Type} {c : Prop} [Decidable c] {g f : Nat → Option α} (h1 : ∃ r, Ev g r) (h2 : ∃ r, Ev f r) : ∃ r, Ev (fun k => if c then g k else f k) r := by
  by_cases h : c
  · simp only [if_pos h]; exact h1
  · simp only [if_neg h]; exact h2
theorem exp_ {α : Type} {c : Prop} [Decidable c] {g f : Nat → Option α} (h : c) (h1 : ∃ r, Ev g r) : ∃ r, Ev (fun k => if c then g k else f k) r := by
  simp only [if_pos h]; exact h1
theorem exn_ {α : Type} {c : Prop} [Decidable c] {g f : Nat → Option α} (h : ¬ c) (h2 : ∃ r, Ev f r) : ∃ r, Ev (fun k => if c then g k else f k) r := by
  simp only [if_neg h]; exact h2
theorem exc {α : Type} (r : α) : ∃ q : α, Ev (fun _ : Nat => some r) q := ⟨r, evc fun _ => rfl⟩
theorem exs {α : Type} {g : Nat → Option α} (h : ∃ r, Ev (fun k => g (k + 1)) r) : ∃ r, Ev g r := by
  obtain ⟨r, hr⟩ := h
  exact ⟨r, evsucc hr⟩
/-- A loop over a row, whatever it carries, ends. -/
theorem ex_rows {σ β : Type} {n : Nat} (L : Nat → σ → Int → Option β) (hs : ∀ (i : Nat) (s : σ), i < n → (∀ s', ∃ r, Ev (fun k => L k s' ((i + 1 : Nat) : Int)) r) → ∃ r, Ev (fun k => L k s (i : Int)) r) (he : ∀ s, ∃ r, Ev (fun k => L k s (n : Int)) r) :
    ∀ (d i : Nat) (s : σ), i + d = n → ∃ r, Ev (fun k => L k s (i : Int)) r := by
  intro d
  induction d with
  | zero => intro i s h; obtain rfl : i = n := by omega
            exact he s
  | succ d ih => intro i s h; exact hs i s (by omega) (fun s' => ih (i + 1) s' (by omega))
theorem rdStr_at {l : List ByteArray} {i : Nat} (h : i < l.length) : rdOf ByteArray.empty l (i : Int) = l[i] := by
  simp [rdOf, List.getD_eq_getElem?_getD, List.getElem?_eq_getElem h]
theorem exv {α β : Type} {g : Option α} {f : Nat → α → Option β} {a : α} (h : g = some a) (k : ∃ r, Ev (fun n => f n a) r) : ∃ r, Ev (fun n => g.bind (f n)) r := by
  subst h
  exact k
theorem toStrs_ev (l : List ByteArray) (hn : l.length ≤ 17592186044416) : Ev (fun k => laws_toStringS.f k l) l := by
  unfold laws_toStringS.f
  refine evp (by omega) (evp (by omega) ?_)
  have := to_rows (fun k ys i => laws_toStringS.l0 k l ys i) (fun s : ByteArray => s) l (fun i ys h hl r hr => by
    apply evsucc
    simp only [laws_toStringS.l0]
    refine evp (by omega) (evp (by omega) (evp (by omega) ?_))
    rw [wsucc h (by omega), rdStr_at h, Int.toNat_natCast]
    exact hr) (fun ys => by
    apply evsucc
    simp only [laws_toStringS.l0]
    exact evn (by omega) (evc fun _ => rfl)) l.length 0 (List.replicate ((l.length : Int) : Int).toNat (⟨#[]⟩ : ByteArray)) (by omega) (by simp) (by simp)
  simpa using this
theorem eqStrs_ev (l : List ByteArray) (hn : l.length ≤ 17592186044416) : Ev (fun k => laws_eqStringS.f k l l) true := by
  unfold laws_eqStringS.f
  refine evp rfl (on_rows (n := l.length) (fun k i => laws_eqStringS.l0 k l l i) true (fun i h hr => ?_) ?_ l.length 0 (by omega))
  · apply evsucc
    simp only [laws_eqStringS.l0]
    refine evp (by omega) (evp (by omega) (evp (by omega) (evp (by trivial) ?_)))
    rw [wsucc h (by omega)]
    exact hr
  · apply evsucc
    simp only [laws_eqStringS.l0]
    exact evn (by omega) (evc fun _ => rfl)
theorem szStrs_ex (l : List ByteArray) (a : Int) (hn : l.length ≤ 17592186044416) : ∃ r, Ev (fun k => laws_szStringS.f k l a) r := by
  unfold laws_szStringS.f
  refine exi (exc _) (ex_rows (n := l.length) (fun k s i => laws_szStringS.l0 k l s i) (fun i s h hr => exs ?_) (fun s => exs ?_) l.length 0 _ (by omega))
  · simp only [laws_szStringS.l0]
    refine exp_ (by omega) (exp_ (by omega) (exi (exc _) ?_))
    rw [wsucc h (by omega)]
    exact hr _
  · simp only [laws_szStringS.l0]
    exact exn_ (by omega) (exc _)
def pend (x : S129) : S55 := ⟨x.f0, x.f1⟩
theorem rdP_at {l : List S55} {i : Nat} (h : i < l.length) : rd_T55 l (i : Int) = l[i] := by
  simp [rd_T55, List.getD_eq_getElem?_getD, List.getElem?_eq_getElem h]
theorem rdQ_at {l : List S129} {i : Nat} (h : i < l.length) : rd_T129 l (i : Int) = l[i] := by
  simp [rd_T129, List.getD_eq_getElem?_getD, List.getElem?_eq_getElem h]
theorem toPends_ev (l : List S129) (hn : l.length ≤ 11728124029610) : Ev (fun k => laws_toPendingS.f k l) (l.map pend) := by
  unfold laws_toPendingS.f
  refine evp (by omega) (evp (by omega) ?_)
  exact to_rows (fun k ys i => laws_toPendingS.l0 k l ys i) pend l (fun i ys h hl r hr => by
    apply evsucc
    simp only [laws_toPendingS.l0]
    refine evp (by omega) (evp (by omega) (evk rfl (evp (by omega) ?_)))
    rw [wsucc h (by omega), rdQ_at h, Int.toNat_natCast]
    exact hr) (fun ys => by
    apply evsucc
    simp only [laws_toPendingS.l0]
    exact evn (by omega) (evc fun _ => rfl)) l.length 0 _ (by omega) (by simp) (by simp)
theorem eqPends_ev (l : List S55) (hn : l.length ≤ 11728124029610) : Ev (fun k => laws_eqPendingS.f k l l) true := by
  unfold laws_eqPendingS.f
  refine evp rfl (on_rows (n := l.length) (fun k i => laws_eqPendingS.l0 k l l i) true (fun i h hr => ?_) ?_ l.length 0 (by omega))
  · apply evsucc
    simp only [laws_eqPendingS.l0]
    refine evp (by omega) (evp (by omega) (evp (by omega) (evk (a := true) (by simp [laws_eqPending.f]) (evp rfl ?_))))
    rw [wsucc h (by omega)]
    exact hr
  · apply evsucc
    simp only [laws_eqPendingS.l0]
    exact evn (by omega) (evc fun _ => rfl)
theorem szPends_ex (l : List S129) (a : Int) (hn : l.length ≤ 11728124029610) : ∃ r, Ev (fun k => laws_szPendingS.f k l a) r := by
  unfold laws_szPendingS.f
  refine exi (exc _) (ex_rows (n := l.length) (fun k s i => laws_szPendingS.l0 k l s i) (fun i s h hr => exs ?_) (fun s => exs ?_) l.length 0 _ (by omega))
  · simp only [laws_szPendingS.l0]
    refine exp_ (by omega) (exp_ (by omega) (exk (by unfold laws_szPending.f; split <;> exact ⟨_, rfl⟩) (fun a => exi (exc _) ?_)))
    rw [wsucc h (by omega)]
    exact hr _
  · simp only [laws_szPendingS.l0]
    exact exn_ (by omega) (exc _)
theorem toDisk_ev (s : List ByteArray) (p : List S129) (hs : s.length ≤ 8796093021968) (hp : p.length ≤ 5864062014639) : Ev (fun k => laws_toDisk.f k s p) (s, p.map pend) := by
  unfold laws_toDisk.f
  exact evb (toStrs_ev s (by omega)) (evb (toPends_ev p (by omega)) (evc fun _ => rfl))
theorem eqDisk_ev (s : List ByteArray) (p : List S55) (hs : s.length ≤ 8796093021968) (hp : p.length ≤ 5864062014639) : Ev (fun k => laws_eqDisk.f k s p s p) true := by
  unfold laws_eqDisk.f
  exact evb (eqStrs_ev s (by omega)) (evp rfl (evb (eqPends_ev p (by omega)) (evp rfl (evc fun _ => rfl))))
theorem szDisk_ex (s : List ByteArray) (p : List S129) (a : Int) (hs : s.length ≤ 8796093021968) (hp : p.length ≤ 5864062014639) : ∃ r, Ev (fun k => laws_szDisk.f k s p a) r := by
  unfold laws_szDisk.f
  exact exb (szStrs_ex s a (by omega)) (fun _ => exi (exc _) (exb (szPends_ex p _ (by omega)) (fun _ => exi (exc _) (exc _))))
theorem diskWaits (s : List ByteArray) (p : List S55) (hs : s.length ≤ 8796093021968) (hp : p.length ≤ 5864062014639) : ∀ (d i : Nat), i + d = p.length →
    Ev (fun k => spec_DiskOk.l1 k (s.length : Int) (i : Int) s p) (!(p.drop i).any fun x => !impl_DiskOk.wait s.length x) := by
  intro d
  induction d with
  | zero =>
    intro i h
    apply evsucc
    simp only [spec_DiskOk.l1]
    refine evn (by omega) (evc fun _ => ?_)
    rw [List.drop_of_length_le (by omega)]
    rfl
  | succ d ih =>
    intro i h
    have hi : i < p.length := by omega
    apply evsucc
    simp only [spec_DiskOk.l1]
    refine evp (by omega) (evp (by omega) (evk (l00In_eq _ _ _) ?_))
    rw [wsucc hi (by omega), rdP_at hi, drop_at hi, show wrap64 ((s.length : Int) - 1) = (s.length : Int) - 1 by unfold wrap64; omega]
    by_cases h1 : 0 ≤ p[i].f0 ∧ p[i].f0 ≤ (s.length : Int) - 1
    · refine evp (by simpa using h1) ?_
      by_cases h2 : (p[i].f1.size : Int) = 64
      · refine evp h2 ?_
        have hw : impl_DiskOk.wait s.length p[i] = true := by unfold impl_DiskOk.wait; rw [decide_eq_true h1, h2]; rfl
        rw [List.any_cons, hw]
        simpa using ih (i + 1) (by omega)
      · refine evn h2 (evc fun _ => ?_)
        have hw : impl_DiskOk.wait s.length p[i] = false := by unfold impl_DiskOk.wait; rw [beq_eq_false_iff_ne.2 h2, Bool.and_false]
        rw [List.any_cons, hw]
        rfl
    · refine evn (by simpa using h1) (evc fun _ => ?_)
      have hw : impl_DiskOk.wait s.length p[i] = false := by unfold impl_DiskOk.wait; rw [decide_eq_false h1, Bool.false_and]
      rw [List.any_cons, hw]
      rfl
theorem diskSecs (s : List ByteArray) (p : List S55) (hs : s.length ≤ 8796093021968) (hp : p.length ≤ 5864062014639) : ∀ (d i : Nat), i + d = s.length →
    Ev (fun k => spec_DiskOk.l0 k (s.length : Int) (i : Int) s p) (((s.drop i).all fun x => ((x.size : Int) == 64)) && !p.any fun x => !impl_DiskOk.wait s.length x) := by
  intro d
  induction d with
  | zero =>
    intro i h
    apply evsucc
    simp only [spec_DiskOk.l0]
    refine evn (by omega) ?_
    rw [List.drop_of_length_le (by omega)]
    simpa using diskWaits s p hs hp p.length 0 (by omega)
  | succ d ih =>
    intro i h
    have hi : i < s.length := by omega
    apply evsucc
    simp only [spec_DiskOk.l0]
    refine evp (by omega) (evp (by omega) ?_)
    rw [wsucc hi (by omega), rdStr_at hi, drop_at hi]
    by_cases h1 : (s[i].size : Int) = 64
    · refine evp h1 ?_
      rw [List.all_cons, h1]
      simpa using ih (i + 1) (by omega)
    · refine evn h1 (evc fun _ => ?_)
      rw [List.all_cons, beq_eq_false_iff_ne.2 h1]
      rfl
/-- Is a disk one? -/
def diskB (s : List ByteArray) (p : List S55) : Bool :=
  ((decide ((1 : Int) ≤ (s.length : Int) ∧ (s.length : Int) ≤ 1200) && decide ((p.length : Int) ≤ 600)) && s.all fun x => ((x.size : Int) == 64)) && !p.any fun x => !impl_DiskOk.wait s.length x
theorem diskImpl (s : List ByteArray) (p : List S55) : impl_DiskOk.f s p = some (diskB s p) := rfl
theorem diskSpec (s : List ByteArray) (p : List S55) (hs : s.length ≤ 8796093021968) (hp : p.length ≤ 5864062014639) : Ev (fun k => spec_DiskOk.f k s p) (diskB s p) := by
  unfold spec_DiskOk.f diskB
  by_cases h1 : (s.length : Int) < 1
  · have h1' : ¬ (1 ≤ (s.length : Int) ∧ (s.length : Int) ≤ 1200) := by omega
    refine evp h1 (evsucc ?_)
    simp only [spec_DiskOk.j0]
    refine evp (by simp) (evc fun _ => ?_)
    rw [decide_eq_false h1']; rfl
  · refine evn h1 ?_
    by_cases h2 : (s.length : Int) > 1200
    · have h1' : ¬ (1 ≤ (s.length : Int) ∧ (s.length : Int) ≤ 1200) := by omega
      refine evp h2 (evsucc ?_)
      simp only [spec_DiskOk.j0]
      refine evp (by simp) (evc fun _ => ?_)
      rw [decide_eq_false h1']; rfl
    · have h1' : 1 ≤ (s.length : Int) ∧ (s.length : Int) ≤ 1200 := by omega
      refine evn h2 (evsucc ?_)
      simp only [spec_DiskOk.j0]
      by_cases h3 : (p.length : Int) > 600
      · refine evp (by simpa using h3) (evc fun _ => ?_)
        rw [decide_eq_false (show ¬ (p.length : Int) ≤ 600 by omega)]; simp
      · refine evn (by simpa using h3) ?_
        rw [decide_eq_true h1', decide_eq_true (show (p.length : Int) ≤ 600 by omega)]
        simpa using diskSecs s p hs hp s.length 0 (by omega)
def found (s : List ByteArray) (q : List S55) (a : Int) : ByteArray := match q.reverse.find? (fun x => x.f0 == a) with
  | some x => x.f1
  | none => rdOf ByteArray.empty s a
theorem spec_found (s : List ByteArray) (p : List S55) (a : Int) (hp : p.length ≤ 5864062014639) (h0 : 0 ≤ a) (h1 : a < (s.length : Int)) : ∀ m, m ≤ p.length → Ev (fun k => spec_ReadSector.l0 k a ((m : Int) - 1) s p) (found s (p.take m) a, 0) := by
  intro m
  induction m with
  | zero =>
    intro _
    apply evsucc
    simp only [spec_ReadSector.l0]
    refine evn (by omega) (evp h0 (evp h1 (evc fun _ => ?_)))
    rfl
  | succ m ih =>
    intro hm
    apply evsucc
    simp only [spec_ReadSector.l0]
    have e : ((m + 1 : Nat) : Int) - 1 = (m : Int) := by omega
    rw [e, rdP_at (l := p) (show m < p.length by omega)]
    have ht : (p.take (m + 1)).reverse = p[m] :: (p.take m).reverse := by rw [take_at (show m < p.length by omega)]; simp
    refine evp (by omega) (evp (by omega) (evp (by omega) ?_))
    by_cases hq : p[m].f0 = a
    · refine evp hq (evc fun _ => ?_)
      unfold found
      rw [ht, List.find?_cons_of_pos (by simpa using hq)]
    · refine evn hq ?_
      have hf : found s (p.take (m + 1)) a = found s (p.take m) a := by
        unfold found
        rw [ht, List.find?_cons_of_neg (by simpa using hq)]
      rw [hf, show wrap64 ((m : Int) - 1) = (m : Int) - 1 by unfold wrap64; omega]
      exact ih (by omega)
def readR (s : List ByteArray) (p : List S55) (a : Int) : ByteArray × Int := if diskB s p = true then (if 0 ≤ a ∧ a ≤ (s.length : Int) - 1 then (found s p a, 0) else (ByteArray.empty, 2)) else (ByteArray.empty, 1)
theorem readSpec (s : List ByteArray) (p : List S55) (a : Int) (hs : s.length ≤ 8796093021968) (hp : p.length ≤ 5864062014639) : Ev (fun k => spec_ReadSector.f k s p a) (readR s p a) := by
  unfold spec_ReadSector.f readR
  refine evb (diskSpec s p hs hp) ?_
  by_cases hd : diskB s p = true
  · rw [if_pos hd]
    refine evp hd ?_
    unfold spec_l14Has.f
    rw [show wrap64 ((s.length : Int) - 1) = (s.length : Int) - 1 by unfold wrap64; omega, l00In_eq]
    refine evk rfl ?_
    by_cases hx : 0 ≤ a ∧ a ≤ (s.length : Int) - 1
    · rw [if_pos hx]
      refine evp (by simpa using hx) ?_
      rw [show wrap64 ((p.length : Int) - 1) = (p.length : Int) - 1 by unfold wrap64; omega]
      have := spec_found s p a hp hx.1 (by omega) p.length (Nat.le_refl _)
      rwa [List.take_of_length_le (Nat.le_refl _)] at this
    · rw [if_neg hx]
      exact evn (by simpa using hx) (evc fun _ => rfl)
  · rw [if_neg hd]
    exact evn hd (evc fun _ => rfl)
theorem readImpl (s : List ByteArray) (p : List S55) (a : Int) : impl_ReadSector.f s p a = some (readR s p a) := by
  unfold impl_ReadSector.f readR
  rw [diskImpl]
  show (if diskB s p = true then _ else _) = _
  by_cases hd : diskB s p = true
  · rw [if_pos hd, if_pos hd]
    by_cases hx : 0 ≤ a ∧ a ≤ (s.length : Int) - 1
    · rw [if_pos hx, if_pos hx]
      rfl
    · rw [if_neg hx, if_neg hx]
  · rw [if_neg hd, if_neg hd]
theorem FnExactReadSector : Stmt.FnExactReadSector.PureS := by
  intro s p a ⟨_, hs, _⟩ ⟨_, hp, _⟩ _
  apply ev_ex
  unfold laws_FnExactReadSector.f
  obtain ⟨v, hv⟩ := szDisk_ex s p 1048576 (by omega) (by omega)
  refine evb hv ?_
  by_cases h : v < 0
  · exact evp h (evc fun _ => rfl)
  · have ht := toDisk_ev s p (by omega) (by omega)
    have hp' : (p.map pend).length ≤ 5864062014639 := by rw [List.length_map]; omega
    refine evn h (evb ht (evb (readSpec s (p.map pend) a (by omega) hp') (evb ht (evk (readImpl s (p.map pend) a) (evp rfl ?_)))))
    apply evsucc
    simp only [laws_FnExactReadSector.j0]
    exact evn (by simp) (evb ht (evb (eqDisk_ev s (p.map pend) (by omega) hp') (evp rfl (evc fun _ => rfl))))
end Go.Proofs.Ythphhklbliambaa.Pure
