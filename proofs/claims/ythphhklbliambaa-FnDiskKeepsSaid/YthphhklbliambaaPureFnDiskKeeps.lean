/- What was flushed stays whatever else is lost, and a sector on which nothing waits stays as it is, at every code within the reach. No other condition. -/
import Derived.Test.YthphhklbliambaaStmtFnDiskKeeps
set_option linter.unusedSimpArgs false
set_option linter.unusedVariables false
namespace Go.Proofs.Ythphhklbliambaa.Pure
open Go.RowKit Go.Proofs.Ythphhklbliambaa.MFnDiskKeeps Go.Proofs.YthphhklbliambaaW.PrintWords Go.Proofs.YthphhklbliambaaW.PrintLast
theorem evc {α : Type} {g : Nat → Option α} {r : α} (h : ∀ k, g k = some r) : Ev g r := ⟨0, fun k _ => h k⟩
theorem evsucc {α : Type} {g : Nat → Option α} {r : α} (h : Ev (fun k => g (k + 1)) r) : Ev g r := by
  obtain ⟨K, hK⟩ := h
  refine ⟨K + 1, fun k hk => ?_⟩
  obtain ⟨k, rfl⟩ : ∃ m, k = m + 1 := ⟨k - 1, by omega⟩
  exact hK k (by omega)
theorem evp {α : Type} {c : Prop} [Decidable c] {g f : Nat → Option α} {r : α} (hc : c) (h : Ev g r) : Ev (fun k => if c then g k else f k) r := by
  simp only [if_pos hc]; exact h
theorem evn {α : Type} {c : Prop} [Decidable c] {g f : Nat → Option α} {r : α} (hc : ¬ c) (h : Ev f r) : Ev (fun k => if c then g k else f k) r := by
  simp only [if_neg hc]; exact h
theorem evb {α β : Type} {g : Nat → Option α} {f : Nat → α → Option β} {a : α} {r : β} (h : Ev g a) (k : Ev (fun n => f n a) r) : Ev (fun n => (g n).bind (f n)) r := Ev.bind h k
theorem evk {α β : Type} {g : Option α} {f : Nat → α → Option β} {a : α} {r : β} (h : g = some a) (k : Ev (fun n => f n a) r) : Ev (fun n => g.bind (f n)) r := by subst h; exact k
theorem ev_ex {α : Type} {g : Nat → Option α} {r : α} (h : Ev g r) : ∃ k, g k = some r := by obtain ⟨K, hK⟩ := h; exact ⟨K, hK K (Nat.le_refl _)⟩
theorem wsucc {i n : Nat} (h : i < n) (hn : n ≤ 140737488351232) : wrap64 ((i : Int) + 1) = ((i + 1 : Nat) : Int) := by unfold wrap64; omega
theorem rd_at {l : List Int} {i : Nat} (h : i < l.length) : rd l (i : Int) = l[i] := by
  simp [rd, List.getD_eq_getElem?_getD, List.getElem?_eq_getElem h]
theorem drop_at {α : Type} {l : List α} {i : Nat} (h : i < l.length) : l.drop i = l[i] :: l.drop (i + 1) := List.drop_eq_getElem_cons h
theorem take_at {α : Type} {l : List α} {i : Nat} (h : i < l.length) : l.take (i + 1) = l.take i ++ [l[i]] := by
  rw [List.take_succ_eq_append_getElem h]
theorem between_eq (a b c : Int) : impl_between.f a b c = some (decide (b ≤ a ∧ a ≤ c)) := by
  unfold impl_between.f
  by_cases h : a ≥ b
  · have h' : b ≤ a := h
    simp [h, h']
  · have h' : ¬ b ≤ a := h
    simp [h, h']
theorem l00In_eq (a b c : Int) : spec_l00In.f a b c = some (decide (b ≤ a ∧ a ≤ c)) := by
  unfold spec_l00In.f
  by_cases h : a ≥ b
  · have h' : b ≤ a := h
    simp [h, h']
  · have h' : ¬ b ≤ a := h
    simp [h, h']
/-- Every element of a row taken over into a row made ahead. -/
theorem to_rows {α β : Type} (L : Nat → List β → Int → Option (List β)) (conv : α → β) (xs : List α)
    (hs : ∀ (i : Nat) (ys : List β) (h : i < xs.length), ys.length = xs.length → ∀ r, Ev (fun k => L k (ys.set i (conv xs[i])) ((i + 1 : Nat) : Int)) r → Ev (fun k => L k ys (i : Int)) r)
    (he : ∀ ys, Ev (fun k => L k ys (xs.length : Int)) ys) : ∀ (d i : Nat) (ys : List β), i + d = xs.length → ys.length = xs.length → ys.take i = (xs.take i).map conv → Ev (fun k => L k ys (i : Int)) (xs.map conv) := by
  intro d
  induction d with
  | zero =>
    intro i ys h hl ht
    obtain rfl : i = xs.length := by omega
    rw [← hl, List.take_length, hl, List.take_length] at ht
    subst ht
    exact he _
  | succ d ih =>
    intro i ys h hl ht
    have hi : i < xs.length := by omega
    refine hs i ys hi hl _ (ih (i + 1) _ (by omega) (by simpa using hl) ?_)
    rw [take_at (by simp; omega), take_at hi, List.take_set_of_le (by omega), ht, List.map_append]
    simp only [List.getElem_set_self, List.map_cons, List.map_nil]
/-- A loop that asks something of each element, and goes on. -/
theorem on_rows {β : Type} {n : Nat} (L : Nat → Int → Option β) (r : β) (hs : ∀ i : Nat, i < n → Ev (fun k => L k ((i + 1 : Nat) : Int)) r → Ev (fun k => L k (i : Int)) r) (he : Ev (fun k => L k (n : Int)) r) :
    ∀ (d i : Nat), i + d = n → Ev (fun k => L k (i : Int)) r := by
  intro d
  induction d with
  | zero => intro i h; obtain rfl : i = n := by omega
            exact he
  | succ d ih => intro i h; exact hs i (by omega) (ih (i + 1) (by omega))
theorem exb {α β : Type} {g : Nat → Option α} {f : Nat → α → Option β} (h : ∃ a, Ev g a) (k : ∀ a, ∃ r, Ev (fun n => f n a) r) : ∃ r, Ev (fun n => (g n).bind (f n)) r := by
  obtain ⟨a, ha⟩ := h
  obtain ⟨r, hr⟩ := k a
  exact ⟨r, evb ha hr⟩
theorem exk {α β : Type} {g : Option α} {f : Nat → α → Option β} (h : ∃ a, g = some a) (k : ∀ a, ∃ r, Ev (fun n => f n a) r) : ∃ r, Ev (fun n => g.bind (f n)) r := by
  obtain ⟨a, rfl⟩ := h
  exact k a
theorem exi {α : Type} {c : Prop} [Decidable c] {g f : Nat → Option α} (h1 : ∃ r, Ev g r) (h2 : ∃ r, Ev f r) : ∃ r, Ev (fun k => if c then g k else f k) r := by
  by_cases h : c
  · simp only [if_pos h]; exact h1
  · simp only [if_neg h]; exact h2
theorem exp_ {α : Type} {c : Prop} [Decidable c] {g f : Nat → Option α} (h : c) (h1 : ∃ r, Ev g r) : ∃ r, Ev (fun k => if c then g k else f k) r := by
  simp only [if_pos h]; exact h1
theorem exn_ {α : Type} {c : Prop} [Decidable c] {g f : Nat → Option α} (h : ¬ c) (h2 : ∃ r, Ev f r) : ∃ r, Ev (fun k => if c then g k else f k) r := by
  simp only [if_neg h]; exact h2
theorem exc {α : Type} (r : α) : ∃ q : α, Ev (fun _ : Nat => some r) q := ⟨r, evc fun _ => rfl⟩
theorem exs {α : Type} {g : Nat → Option α} (h : ∃ r, Ev (fun k => g (k + 1)) r) : ∃ r, Ev g r := by
  obtain ⟨r, hr⟩ := h
  exact ⟨r, evsucc hr⟩
/-- A loop over a row, whatever it carries, ends. -/
theorem ex_rows {σ β : Type} {n : Nat} (L : Nat → σ → Int → Option β) (hs : ∀ (i : Nat) (s : σ), i < n → (∀ s', ∃ r, Ev (fun k => L k s' ((i + 1 : Nat) : Int)) r) → ∃ r, Ev (fun k => L k s (i : Int)) r) (he : ∀ s, ∃ r, Ev (fun k => L k s (n : Int)) r) :
    ∀ (d i : Nat) (s : σ), i + d = n → ∃ r, Ev (fun k => L k s (i : Int)) r := by
  intro d
  induction d with
  | zero => intro i s h; obtain rfl : i = n := by omega
            exact he s
  | succ d ih => intro i s h; exact hs i s (by omega) (fun s' => ih (i + 1) s' (by omega))
theorem rdStr_at {l : List ByteArray} {i : Nat} (h : i < l.length) : rdOf ByteArray.empty l (i : Int) = l[i] := by
  simp [rdOf, List.getD_eq_getElem?_getD, List.getElem?_eq_getElem h]
theorem exv {α β : Type} {g : Option α} {f : Nat → α → Option β} {a : α} (h : g = some a) (k : ∃ r, Ev (fun n => f n a) r) : ∃ r, Ev (fun n => g.bind (f n)) r := by
  subst h
  exact k
theorem rdP_at {l : List S55} {i : Nat} (h : i < l.length) : rd_T55 l (i : Int) = l[i] := by
  simp [rd_T55, List.getD_eq_getElem?_getD, List.getElem?_eq_getElem h]
theorem diskWaits (s : List ByteArray) (p : List S55) (hs : s.length ≤ 8796093021968) (hp : p.length ≤ 5864062014639) : ∀ (d i : Nat), i + d = p.length →
    Ev (fun k => spec_DiskOk.l1 k (s.length : Int) (i : Int) s p) (!(p.drop i).any fun x => !impl_DiskOk.wait s.length x) := by
  intro d
  induction d with
  | zero =>
    intro i h
    apply evsucc
    simp only [spec_DiskOk.l1]
    refine evn (by omega) (evc fun _ => ?_)
    rw [List.drop_of_length_le (by omega)]
    rfl
  | succ d ih =>
    intro i h
    have hi : i < p.length := by omega
    apply evsucc
    simp only [spec_DiskOk.l1]
    refine evp (by omega) (evp (by omega) (evk (l00In_eq _ _ _) ?_))
    rw [wsucc hi (by omega), rdP_at hi, drop_at hi, show wrap64 ((s.length : Int) - 1) = (s.length : Int) - 1 by unfold wrap64; omega]
    by_cases h1 : 0 ≤ p[i].f0 ∧ p[i].f0 ≤ (s.length : Int) - 1
    · refine evp (by simpa using h1) ?_
      by_cases h2 : (p[i].f1.size : Int) = 64
      · refine evp h2 ?_
        have hw : impl_DiskOk.wait s.length p[i] = true := by unfold impl_DiskOk.wait; rw [decide_eq_true h1, h2]; rfl
        rw [List.any_cons, hw]
        simpa using ih (i + 1) (by omega)
      · refine evn h2 (evc fun _ => ?_)
        have hw : impl_DiskOk.wait s.length p[i] = false := by unfold impl_DiskOk.wait; rw [beq_eq_false_iff_ne.2 h2, Bool.and_false]
        rw [List.any_cons, hw]
        rfl
    · refine evn (by simpa using h1) (evc fun _ => ?_)
      have hw : impl_DiskOk.wait s.length p[i] = false := by unfold impl_DiskOk.wait; rw [decide_eq_false h1, Bool.false_and]
      rw [List.any_cons, hw]
      rfl
theorem diskSecs (s : List ByteArray) (p : List S55) (hs : s.length ≤ 8796093021968) (hp : p.length ≤ 5864062014639) : ∀ (d i : Nat), i + d = s.length →
    Ev (fun k => spec_DiskOk.l0 k (s.length : Int) (i : Int) s p) (((s.drop i).all fun x => ((x.size : Int) == 64)) && !p.any fun x => !impl_DiskOk.wait s.length x) := by
  intro d
  induction d with
  | zero =>
    intro i h
    apply evsucc
    simp only [spec_DiskOk.l0]
    refine evn (by omega) ?_
    rw [List.drop_of_length_le (by omega)]
    simpa using diskWaits s p hs hp p.length 0 (by omega)
  | succ d ih =>
    intro i h
    have hi : i < s.length := by omega
    apply evsucc
    simp only [spec_DiskOk.l0]
    refine evp (by omega) (evp (by omega) ?_)
    rw [wsucc hi (by omega), rdStr_at hi, drop_at hi]
    by_cases h1 : (s[i].size : Int) = 64
    · refine evp h1 ?_
      rw [List.all_cons, h1]
      simpa using ih (i + 1) (by omega)
    · refine evn h1 (evc fun _ => ?_)
      rw [List.all_cons, beq_eq_false_iff_ne.2 h1]
      rfl
/-- Is a disk one? -/
def diskB (s : List ByteArray) (p : List S55) : Bool :=
  ((decide ((1 : Int) ≤ (s.length : Int) ∧ (s.length : Int) ≤ 1200) && decide ((p.length : Int) ≤ 600)) && s.all fun x => ((x.size : Int) == 64)) && !p.any fun x => !impl_DiskOk.wait s.length x
theorem diskImpl (s : List ByteArray) (p : List S55) : impl_DiskOk.f s p = some (diskB s p) := rfl
theorem diskSpec (s : List ByteArray) (p : List S55) (hs : s.length ≤ 8796093021968) (hp : p.length ≤ 5864062014639) : Ev (fun k => spec_DiskOk.f k s p) (diskB s p) := by
  unfold spec_DiskOk.f diskB
  by_cases h1 : (s.length : Int) < 1
  · have h1' : ¬ (1 ≤ (s.length : Int) ∧ (s.length : Int) ≤ 1200) := by omega
    refine evp h1 (evsucc ?_)
    simp only [spec_DiskOk.j0]
    refine evp (by simp) (evc fun _ => ?_)
    rw [decide_eq_false h1']; rfl
  · refine evn h1 ?_
    by_cases h2 : (s.length : Int) > 1200
    · have h1' : ¬ (1 ≤ (s.length : Int) ∧ (s.length : Int) ≤ 1200) := by omega
      refine evp h2 (evsucc ?_)
      simp only [spec_DiskOk.j0]
      refine evp (by simp) (evc fun _ => ?_)
      rw [decide_eq_false h1']; rfl
    · have h1' : 1 ≤ (s.length : Int) ∧ (s.length : Int) ≤ 1200 := by omega
      refine evn h2 (evsucc ?_)
      simp only [spec_DiskOk.j0]
      by_cases h3 : (p.length : Int) > 600
      · refine evp (by simpa using h3) (evc fun _ => ?_)
        rw [decide_eq_false (show ¬ (p.length : Int) ≤ 600 by omega)]; simp
      · refine evn (by simpa using h3) ?_
        rw [decide_eq_true h1', decide_eq_true (show (p.length : Int) ≤ 600 by omega)]
        simpa using diskSecs s p hs hp s.length 0 (by omega)
theorem wait_of {s : List ByteArray} {p : List S55} (h : diskB s p = true) : ∀ x ∈ p, (0 ≤ x.f0 ∧ x.f0 ≤ (s.length : Int) - 1) ∧ x.f1.size = 64 := by
  intro x hx
  unfold diskB at h
  simp only [Bool.and_eq_true, Bool.not_eq_true', List.any_eq_false] at h
  have := h.2 x hx
  simp only [Bool.not_eq_true', Bool.not_eq_false, impl_DiskOk.wait, Bool.and_eq_true, decide_eq_true_eq, beq_iff_eq] at this
  exact ⟨this.1, by omega⟩
theorem lens_of {s : List ByteArray} {p : List S55} (h : diskB s p = true) : (1 ≤ s.length ∧ s.length ≤ 1200) ∧ p.length ≤ 600 ∧ ∀ x ∈ s, x.size = 64 := by
  unfold diskB at h
  simp only [Bool.and_eq_true, decide_eq_true_eq, List.all_eq_true, beq_iff_eq] at h
  refine ⟨⟨by omega, by omega⟩, by omega, fun x hx => ?_⟩
  have := h.1.2 x hx
  omega
/-- The writes that wait, made one behind the other. -/
def flush : List ByteArray → List S55 → List ByteArray
  | s, [] => s
  | s, x :: p => flush (s.set x.f0.toNat x.f1) p
theorem flush_len : ∀ (p : List S55) (s : List ByteArray), (flush s p).length = s.length
  | [], _ => rfl
  | x :: p, s => by simp [flush, flush_len p]
theorem flushImpl_loop (s : List ByteArray) (p : List S55) (hp : p.length ≤ 5864062014639) (hw : ∀ x ∈ p, 0 ≤ x.f0 ∧ x.f0 ≤ (s.length : Int) - 1) : ∀ (d i : Nat) (out : List ByteArray), i + d = p.length → out.length = s.length →
    Ev (fun k => impl_Disk_flushed.l0 k out p (p.length : Int) (i : Int)) (flush out (p.drop i), []) := by
  intro d
  induction d with
  | zero =>
    intro i out h ho
    apply evsucc
    simp only [impl_Disk_flushed.l0]
    refine evn (by omega) (evc fun _ => ?_)
    rw [List.drop_of_length_le (by omega)]
    rfl
  | succ d ih =>
    intro i out h ho
    have hi : i < p.length := by omega
    have hx := hw p[i] (List.getElem_mem hi)
    apply evsucc
    simp only [impl_Disk_flushed.l0]
    rw [wsucc hi (by omega), rdP_at hi, drop_at hi]
    refine evp (by omega) (evp (by omega) (evp (by omega) (evp hx.1 (evp (by omega) ?_))))
    exact ih (i + 1) _ (by omega) (by simpa using ho)
def flushR (s : List ByteArray) (p : List S55) : List ByteArray := if diskB s p = true then flush s p else []
theorem flushR_len (s : List ByteArray) (p : List S55) : (flushR s p).length ≤ 1200 := by
  unfold flushR
  by_cases h : diskB s p = true
  · rw [if_pos h, flush_len]; exact (lens_of h).1.2
  · rw [if_neg h]; simp
theorem flushImpl (s : List ByteArray) (p : List S55) (hs : s.length ≤ 8796093021968) (hp : p.length ≤ 5864062014639) : Ev (fun k => impl_FlushDisk.f k s p) (flushR s p, []) := by
  unfold impl_FlushDisk.f flushR
  refine evk (diskImpl s p) ?_
  by_cases h : diskB s p = true
  · rw [if_pos h]
    refine evp h ?_
    have := flushImpl_loop s p hp (fun x hx => (wait_of h x hx).1) p.length 0 s (by omega) rfl
    refine evb (a := (flush s p, [])) ?_ (evc fun _ => rfl)
    unfold impl_Disk_flushed.f slices_Clone_string_string.f
    refine evk (a := s) (if_pos (by omega)) ?_
    simpa using this
  · rw [if_neg h]
    exact evn h (evc fun _ => rfl)

/-- Every element of a list lies above the one before it. -/
def chn : List Int → Bool
  | [] => true
  | [_] => true
  | x :: y :: r => decide (x < y) && chn (y :: r)
theorem chn_pairwise : ∀ l : List Int, chn l = true → l.Pairwise (· < ·)
  | [], _ => List.Pairwise.nil
  | [x], _ => by simp
  | x :: y :: r, h => by
    simp only [chn, Bool.and_eq_true] at h
    have ih := chn_pairwise (y :: r) h.2
    have hxy : x < y := of_decide_eq_true h.1
    refine List.pairwise_cons.2 ⟨fun a ha => ?_, ih⟩
    rcases List.mem_cons.1 ha with rfl | ha
    · exact hxy
    · have := (List.pairwise_cons.1 ih).1 a ha; omega
def inG (lo hi : Int) (l : List Int) : Bool := l.all fun n => decide (lo ≤ n ∧ n ≤ hi)
theorem chn_step {l : List Int} {j : Nat} (h : j + 1 < l.length) : chn (l.drop j) = (decide (l[j] < l[j + 1]) && chn (l.drop (j + 1))) := by
  rw [drop_at (show j < l.length by omega), drop_at h]
  rfl
theorem chn_end {l : List Int} {j : Nat} (h : l.length ≤ j + 1) : chn (l.drop j) = true := by
  have hl : (l.drop j).length ≤ 1 := by rw [List.length_drop]; omega
  match hm : l.drop j with
  | [] => rfl
  | [x] => rfl
  | x :: y :: r => rw [hm] at hl; simp at hl
theorem wpred {j : Nat} (h : j ≤ 1048576) : wrap64 (((j + 1 : Nat) : Int) - 1) = (j : Int) := by unfold wrap64; omega
theorem incr_loop (l : List Int) (hn : l.length ≤ 1048576) : ∀ (d j : Nat), l.length ≤ j + 1 + d → j ≤ l.length →
    Ev (fun k => impl_increasing.l0 k l ((j + 1 : Nat) : Int)) (chn (l.drop j)) := by
  intro d
  induction d with
  | zero =>
    intro j h hj
    apply evsucc
    simp only [impl_increasing.l0]
    exact evn (by omega) (evc fun _ => by rw [chn_end (by omega)])
  | succ d ih =>
    intro j h hj
    apply evsucc
    simp only [impl_increasing.l0]
    by_cases h1 : j + 1 < l.length
    · refine evp (by omega) (evp (by omega) ?_)
      rw [wpred (by omega), wsucc h1 (by omega), rd_at h1, rd_at (show j < l.length by omega), chn_step h1]
      refine evp (by omega) (evp (by omega) ?_)
      by_cases h2 : l[j + 1] ≤ l[j]
      · exact evp h2 (evc fun _ => by rw [decide_eq_false (by omega)]; rfl)
      · refine evn h2 ?_
        rw [decide_eq_true (by omega), Bool.true_and]
        exact ih (j + 1) (by omega) (by omega)
    · exact evn (by omega) (evc fun _ => by rw [chn_end (by omega)])
theorem incr_ev (l : List Int) (hn : l.length ≤ 1048576) : Ev (fun k => impl_increasing.f k l) (chn l) := by
  have := incr_loop l hn l.length 0 (by omega) (by omega)
  simpa [impl_increasing.f] using this

/-- What a write that was kept leaves: torn, if it is the last. -/
def tornS (last : Bool) (torn : Int) (b cur : ByteArray) : ByteArray := if last = true then b.extract 0 torn.toNat ++ cur.extract torn.toNat cur.size else b
def isLast (n i : Nat) (torn : Int) : Bool := decide (i + 1 = n) && decide (torn ≥ 0)
def lostFrom (p : List S55) (torn : Int) (n : Nat) : Nat → List Int → List ByteArray → List ByteArray
  | _, [], out => out
  | i, q :: r, out => lostFrom p torn n (i + 1) r (out.set (rd_T55 p q).f0.toNat (tornS (isLast n i torn) torn (rd_T55 p q).f1 (rdOf ByteArray.empty out (rd_T55 p q).f0)))
theorem lost_len (p : List S55) (torn : Int) (n : Nat) : ∀ (l : List Int) (i : Nat) (out : List ByteArray), (lostFrom p torn n i l out).length = out.length
  | [], _, _ => rfl
  | q :: r, i, out => by simp [lostFrom, lost_len p torn n r]
theorem rdStr_int {l : List ByteArray} {i : Int} (h0 : 0 ≤ i) (h : i < (l.length : Int)) : ∃ hi : i.toNat < l.length, rdOf ByteArray.empty l i = l[i.toNat] := by
  have hi : i.toNat < l.length := by omega
  refine ⟨hi, ?_⟩
  have := rdStr_at hi
  rwa [Int.toNat_of_nonneg h0] at this
theorem rdP_int {l : List S55} {i : Int} (h0 : 0 ≤ i) (h : i < (l.length : Int)) : rd_T55 l i ∈ l := by
  have hi : i.toNat < l.length := by omega
  have := rdP_at hi
  rw [Int.toNat_of_nonneg h0] at this
  rw [this]
  exact List.getElem_mem hi
theorem torn_size {last : Bool} {torn : Int} {b cur : ByteArray} (ht : torn ≤ 64) (hl : last = true → 0 ≤ torn) (hb : b.size = 64) (hc : cur.size = 64) : (tornS last torn b cur).size = 64 := by
  unfold tornS
  cases last with
  | false => simpa using hb
  | true =>
    have := hl rfl
    simp only [if_true, ByteArray.size_append, ByteArray.size_extract, hb, hc]
    omega
theorem whole_eq {b cur : ByteArray} (hb : b.size = 64) (hc : cur.size = 64) : b.extract 0 64 ++ cur.extract 64 cur.size = b := by
  have h1 : b.extract 0 64 = b := by rw [← hb]; simp
  have h2 : cur.extract 64 cur.size = ByteArray.empty := by rw [hc]; simp
  rw [h1, h2]
  simp
theorem mem_set64 {out : List ByteArray} {i : Nat} {v : ByteArray} (h : ∀ x ∈ out, x.size = 64) (hv : v.size = 64) : ∀ x ∈ out.set i v, x.size = 64 := by
  intro x hx
  rcases List.mem_or_eq_of_mem_set hx with hx | rfl
  · exact h x hx
  · exact hv
theorem lostImpl_loop (s : List ByteArray) (p : List S55) (keep : List Int) (torn : Int) (hk : keep.length ≤ 1048576) (hp : p.length ≤ 600) (ht : torn ≤ 64) (hq : ∀ q ∈ keep, 0 ≤ q ∧ q < (p.length : Int))
    (hw : ∀ x ∈ p, (0 ≤ x.f0 ∧ x.f0 ≤ (s.length : Int) - 1) ∧ x.f1.size = 64) : ∀ (d i : Nat) (out : List ByteArray), i + d = keep.length → out.length = s.length → (∀ x ∈ out, x.size = 64) →
    Ev (fun k => impl_Disk_lost.l0 k keep torn out keep (keep.length : Int) (i : Int) s p) (lostFrom p torn keep.length i (keep.drop i) out, []) := by
  intro d
  induction d with
  | zero =>
    intro i out h ho _
    apply evsucc
    simp only [impl_Disk_lost.l0]
    refine evn (by omega) (evc fun _ => ?_)
    rw [List.drop_of_length_le (by omega)]
    rfl
  | succ d ih =>
    intro i out h ho h64
    have hi : i < keep.length := by omega
    have hqi := hq keep[i] (List.getElem_mem hi)
    have hx := hw _ (rdP_int hqi.1 hqi.2)
    apply evsucc
    simp only [impl_Disk_lost.l0]
    rw [wsucc hi (by omega), rd_at hi, drop_at hi, show wrap64 ((keep.length : Int) - 1) = (keep.length : Int) - 1 by unfold wrap64; omega]
    simp only [lostFrom]
    generalize rd_T55 p keep[i] = P at hx
    obtain ⟨hj, hcur⟩ := rdStr_int (l := out) (i := P.f0) (by omega) (by omega)
    have hc : (rdOf ByteArray.empty out P.f0).size = 64 := by rw [hcur]; exact h64 _ (List.getElem_mem hj)
    have hwh := whole_eq hx.2 hc
    refine evp (by omega) (evp (by omega) (evp (by omega) (evp hqi.1 (evp hqi.2 ?_))))
    by_cases hl : i + 1 = keep.length
    · refine evp (by omega) ?_
      by_cases hn : torn ≥ 0
      · have hL : isLast keep.length i torn = true := by unfold isLast; simp [hl, hn]
        have := ih (i + 1) (out.set P.f0.toNat (tornS true torn P.f1 (rdOf ByteArray.empty out P.f0))) (by omega) (by simpa using ho) (mem_set64 h64 (torn_size ht (fun _ => hn) hx.2 hc))
        rw [hL]
        refine evp hn (evp hn (evp (by omega) (evp (by omega) (evp (by omega) (evp (by omega) (evp ?_ this))))))
        simp only [ByteArray.size_extract]
        omega
      · have hL : isLast keep.length i torn = false := by unfold isLast; simp [hn]
        have := ih (i + 1) (out.set P.f0.toNat (tornS false torn P.f1 (rdOf ByteArray.empty out P.f0))) (by omega) (by simpa using ho) (mem_set64 h64 (torn_size ht (fun h => by cases h) hx.2 hc))
        rw [hL]
        rw [hwh]
        refine evn hn (evp (by omega) (evp (by omega) (evp (by omega) (evp (by omega) (evp (by omega) (evp ?_ this))))))
        simp only [ByteArray.size_extract]
        omega
    · have hL : isLast keep.length i torn = false := by unfold isLast; simp [hl]
      have := ih (i + 1) (out.set P.f0.toNat (tornS false torn P.f1 (rdOf ByteArray.empty out P.f0))) (by omega) (by simpa using ho) (mem_set64 h64 (torn_size ht (fun h => by cases h) hx.2 hc))
      rw [hL]
      rw [hwh]
      refine evn (by omega) (evp (by omega) (evp (by omega) (evp (by omega) (evp (by omega) (evp (by omega) (evp ?_ this))))))
      simp only [ByteArray.size_extract]
      omega
/-- What a power loss leaves, and its code. -/
def lossOk (p : List S55) (keep : List Int) (torn : Int) : Bool := (inG 0 ((p.length : Int) - 1) keep && chn keep) && decide (-1 ≤ torn ∧ torn ≤ 64)
def powerR (s : List ByteArray) (p : List S55) (keep : List Int) (torn : Int) : List ByteArray × Int :=
  if diskB s p = true then (if lossOk p keep torn = true then (lostFrom p torn keep.length 0 keep s, 0) else ([], 2)) else ([], 1)
theorem powerR_len (s : List ByteArray) (p : List S55) (keep : List Int) (torn : Int) : (powerR s p keep torn).1.length ≤ 1200 := by
  unfold powerR
  by_cases h : diskB s p = true
  · rw [if_pos h]
    by_cases h2 : lossOk p keep torn = true
    · rw [if_pos h2, lost_len]; exact (lens_of h).1.2
    · rw [if_neg h2]; simp
  · rw [if_neg h]; simp
theorem keep_of {p : List S55} {keep : List Int} {torn : Int} (h : lossOk p keep torn = true) : (∀ q ∈ keep, 0 ≤ q ∧ q < (p.length : Int)) ∧ torn ≤ 64 := by
  unfold lossOk at h
  simp only [Bool.and_eq_true, decide_eq_true_eq] at h
  refine ⟨fun q hq => ?_, h.2.2⟩
  have := of_decide_eq_true (List.all_eq_true.1 h.1.1 q hq)
  omega
theorem powerR_bad {s : List ByteArray} {p : List S55} {keep : List Int} {torn : Int} (h : ¬ diskB s p = true) : powerR s p keep torn = ([], 1) := by unfold powerR; rw [if_neg h]
theorem powerR_no {s : List ByteArray} {p : List S55} {keep : List Int} {torn : Int} (h : diskB s p = true) (h2 : ¬ lossOk p keep torn = true) : powerR s p keep torn = ([], 2) := by unfold powerR; rw [if_pos h, if_neg h2]
theorem powerR_yes {s : List ByteArray} {p : List S55} {keep : List Int} {torn : Int} (h : diskB s p = true) (h2 : lossOk p keep torn = true) : powerR s p keep torn = (lostFrom p torn keep.length 0 keep s, 0) := by unfold powerR; rw [if_pos h, if_pos h2]
theorem powerImpl (s : List ByteArray) (p : List S55) (keep : List Int) (torn : Int) (hs : s.length ≤ 8796093021968) (hp : p.length ≤ 5864062014639) (hk : keep.length ≤ 1048576) :
    Ev (fun k => impl_PowerLoss.f k s p keep torn) ((powerR s p keep torn).1, [], (powerR s p keep torn).2) := by
  unfold impl_PowerLoss.f
  refine evk (diskImpl s p) ?_
  by_cases h : diskB s p = true
  · have hl := lens_of h
    have hok : Ev (fun k => impl_Disk_lossOk.f k s p keep torn) (lossOk p keep torn) := by
      unfold impl_Disk_lossOk.f lossOk
      rw [show wrap64 ((p.length : Int) - 1) = (p.length : Int) - 1 by unfold wrap64; omega]
      refine evb (incr_ev keep hk) ?_
      have e : (!keep.any fun n => !decide ((0 : Int) ≤ n ∧ n ≤ (p.length : Int) - 1)) = inG 0 ((p.length : Int) - 1) keep := by
        unfold inG
        rw [List.not_any_eq_all_not]
        simp
      cases hc : chn keep with
      | true =>
        refine evp rfl (evk (a := inG 0 ((p.length : Int) - 1) keep) (by unfold impl_allBetween.f; rw [e]) ?_)
        cases hg : inG 0 ((p.length : Int) - 1) keep with
        | true => exact evp rfl (evk (between_eq _ _ _) (evc fun _ => by simp))
        | false => exact evn (by simp) (evc fun _ => by simp)
      | false => exact evn (by simp) (evc fun _ => by simp)
    refine evp h (evb hok ?_)
    by_cases hlo : lossOk p keep torn = true
    · have := lostImpl_loop s p keep torn hk hl.2.1 (keep_of hlo).2 (keep_of hlo).1 (wait_of h) keep.length 0 s (by omega) rfl hl.2.2
      rw [powerR_yes h hlo]
      refine evp hlo (evb (a := (lostFrom p torn keep.length 0 keep s, [])) ?_ (evc fun _ => rfl))
      unfold impl_Disk_lost.f slices_Clone_string_string.f
      refine evk (a := s) (if_pos (by omega)) ?_
      simpa using this
    · rw [powerR_no h hlo]
      exact evn hlo (evc fun _ => rfl)
  · rw [powerR_bad h]
    exact evn h (evc fun _ => rfl)
def found (s : List ByteArray) (q : List S55) (a : Int) : ByteArray := match q.reverse.find? (fun x => x.f0 == a) with
  | some x => x.f1
  | none => rdOf ByteArray.empty s a
def readR (s : List ByteArray) (p : List S55) (a : Int) : ByteArray × Int := if diskB s p = true then (if 0 ≤ a ∧ a ≤ (s.length : Int) - 1 then (found s p a, 0) else (ByteArray.empty, 2)) else (ByteArray.empty, 1)
theorem readImpl (s : List ByteArray) (p : List S55) (a : Int) : impl_ReadSector.f s p a = some (readR s p a) := by
  unfold impl_ReadSector.f readR
  rw [diskImpl]
  show (if diskB s p = true then _ else _) = _
  by_cases hd : diskB s p = true
  · rw [if_pos hd, if_pos hd]
    by_cases hx : 0 ≤ a ∧ a ≤ (s.length : Int) - 1
    · rw [if_pos hx, if_pos hx]
      rfl
    · rw [if_neg hx, if_neg hx]
  · rw [if_neg hd, if_neg hd]

def Z : ByteArray := strOfNums (List.replicate 64 0)
theorem spec_loop (n : Nat) (hn : n ≤ 1200) (a : Int) (ha : a = (n : Int)) : ∀ (d i : Nat) (acc : List ByteArray), i + d = n → acc = List.replicate i Z →
    Ev (fun k => spec_NewDisk.l0 k a Z (i : Int) acc) (List.replicate n Z, ([] : List S55), 0) := by
  intro d
  induction d with
  | zero =>
    intro i acc h e
    apply evsucc
    simp only [spec_NewDisk.l0]
    obtain rfl : i = n := by omega
    subst e
    exact evn (by omega) (evc fun _ => rfl)
  | succ d ih =>
    intro i acc h e
    apply evsucc
    simp only [spec_NewDisk.l0]
    subst e
    refine evp (by omega) (evp (by rw [List.length_replicate]; omega) ?_)
    rw [wsucc (n := n) (by omega) (by omega)]
    exact ih (i + 1) _ (by omega) (by rw [List.replicate_succ'])
def G (a : Int) : List ByteArray := if 1 ≤ a ∧ a ≤ 1200 then List.replicate a.toNat Z else []
def E (a : Int) : Int := if 1 ≤ a ∧ a ≤ 1200 then 0 else 2
theorem spec_eq (a : Int) : Ev (fun k => spec_NewDisk.f k a) (G a, ([] : List S55), E a) := by
  unfold spec_NewDisk.f
  rw [l00In_eq]
  refine evk rfl ?_
  by_cases h : 1 ≤ a ∧ a ≤ 1200
  · refine evp (by simpa using h) (evp (by omega) ?_)
    unfold G E
    rw [if_pos h, if_pos h]
    exact spec_loop a.toNat (by omega) a (by omega) a.toNat 0 [] (by omega) rfl
  · refine evn (by simpa using h) (evc fun _ => ?_)
    unfold G E
    rw [if_neg h, if_neg h]
theorem and255 (E : Int) (h0 : 0 ≤ E) (h1 : E ≤ 18446744073709551615) : 0 ≤ Go.bits .and .u64 E 255 ∧ Go.bits .and .u64 E 255 ≤ 255 := by
  have h := Go.bits_and_u64_nat E.toNat 255 (by omega) (by omega)
  rw [Int.toNat_of_nonneg h0] at h
  have h2 : E.toNat &&& 255 ≤ 255 := Nat.and_le_right
  have h3 : Go.bits .and .u64 E 255 = ((E.toNat &&& 255 : Nat) : Int) := h
  rw [h3]; omega
theorem w255 (E : Int) : 0 ≤ wrap64 (Go.bits .and .u64 (Go.IntKind.u64.wrap E / 1099511627776) 255) ∧ wrap64 (Go.bits .and .u64 (Go.IntKind.u64.wrap E / 1099511627776) 255) ≤ 255 := by
  have h0 : 0 ≤ Go.IntKind.u64.wrap E ∧ Go.IntKind.u64.wrap E ≤ 18446744073709551615 := by rw [Go.IntKind.wrap_u64]; omega
  have := and255 (Go.IntKind.u64.wrap E / 1099511627776) (by omega) (by omega)
  generalize Go.bits .and .u64 (Go.IntKind.u64.wrap E / 1099511627776) 255 = b at this ⊢
  unfold wrap64; omega
def Bytes (l : List Int) : Prop := ∀ x ∈ l, 0 ≤ x ∧ x ≤ 255
theorem next_ok {l : List Int} (hb : Bytes l) (p c : Int) (h0 : 0 ≤ p) (h1 : p ≤ 1000000) : ∃ a d, spec_l00Src_next.f l p c = some (a, p + 1, d) ∧ 0 ≤ a ∧ a ≤ 255 := by
  unfold spec_l00Src_next.f
  have e : wrap64 (p + 1) = p + 1 := by unfold wrap64; omega
  rw [e]
  by_cases h : p < (l.length : Int)
  · obtain ⟨i, rfl⟩ : ∃ i : Nat, p = (i : Int) := ⟨p.toNat, by omega⟩
    have hi : i < l.length := by omega
    rw [if_pos h, if_pos h0, if_pos (by omega), rd_at hi]
    have := hb l[i] (List.getElem_mem hi)
    exact ⟨_, _, rfl, by unfold wrap64; omega, by unfold wrap64; omega⟩
  · rw [if_neg h, if_neg (by omega)]
    exact ⟨_, _, rfl, w255 _⟩
theorem pick_ok {l : List Int} (hb : Bytes l) (p c n : Int) (h0 : 0 ≤ p) (h1 : p ≤ 1000000) (hn : n ≤ 200) :
    ∃ a q d, spec_l00Src_pick.f l p c n = some (a, q, d) ∧ 0 ≤ a ∧ (a = 0 ∨ a < n) ∧ p ≤ q ∧ q ≤ p + 1 := by
  unfold spec_l00Src_pick.f
  by_cases g : n ≤ 1
  · exact ⟨0, p, c, by rw [if_pos g], by omega, by omega, by omega, by omega⟩
  · obtain ⟨a, d, h, ha, ha2⟩ := next_ok hb p c h0 h1
    rw [if_neg g, h]
    simp only [Option.bind_some]
    rw [if_neg (by omega), if_neg (by omega)]
    exact ⟨_, _, _, rfl, Int.tmod_nonneg _ ha, Or.inr (Int.tmod_lt_of_pos _ (by omega)), by omega, by omega⟩
theorem one_ok {l : List Int} (hb : Bytes l) (p c n : Int) (h0 : 0 ≤ p) (h1 : p ≤ 1000000) (hn : n ≤ 200) :
    ∃ b q d, spec_l00Src_one.f l p c n = some (b, q, d) ∧ p ≤ q ∧ q ≤ p + 1 := by
  obtain ⟨a, q, d, h, _, _, hq⟩ := pick_ok hb p c n h0 h1 hn
  unfold spec_l00Src_one.f
  rw [h]
  exact ⟨_, _, _, rfl, hq.1, hq.2⟩
theorem wf_u8 (x : Int) : (Lit.int .u8 x).wf = true ↔ 0 ≤ x ∧ x ≤ 255 := by
  simp [Lit.wf, IntKind.min, IntKind.max, IntKind.signed, IntKind.bits]
theorem strOf_size (xs : List Int) : (strOfNums xs).size = xs.length := by
  simp [strOfNums, ByteArray.size]
/-- A drawn sector: 64 bytes. -/
theorem sector_ok {l : List Int} (hb : Bytes l) (p c : Int) (h0 : 0 ≤ p) (h1 : p ≤ 900000) : ∃ b q d, Ev (fun k => spec_l14Sector.f k l p c) (b, q, d) ∧ b.size = 64 ∧ p ≤ q ∧ q ≤ p + 10 := by
  obtain ⟨a, q, d, h, ha, hl, hq1, hq2⟩ := pick_ok hb p c 4 h0 (by omega) (by omega)
  have loop : ∀ (m : Nat) (xs : List Int) (q d : Int), m ≤ 4 → 0 ≤ q → q + 2 * m ≤ 1000000 → xs.length = 64 → ∃ s q' d', Ev (fun k => spec_l14Sector.l0 k xs (m : Int) l q d) (s, q', d') ∧ s.size = 64 ∧ q ≤ q' ∧ q' ≤ q + 2 * m := by
    intro m
    induction m with
    | zero =>
      intro xs q d _ g0 g1 g2
      refine ⟨strOfNums xs, q, d, evsucc ?_, by rw [strOf_size, g2], by omega, by omega⟩
      simp only [spec_l14Sector.l0]
      exact evn (by omega) (evc fun _ => rfl)
    | succ m ih =>
      intro xs q d hm4 g0 g1 g2
      obtain ⟨i, q2, d2, hi, i0, i1, e1, e2⟩ := pick_ok hb q d 64 g0 (by omega) (by omega)
      obtain ⟨b, d3, hn, _, _⟩ := next_ok hb q2 d2 (by omega) (by omega)
      obtain ⟨s, q', d', hs, hs64, e3, e4⟩ := ih (xs.set i.toNat (b % 256)) (q2 + 1) d3 (by omega) (by omega) (by omega) (by simpa using g2)
      refine ⟨s, q', d', evsucc ?_, hs64, by omega, by omega⟩
      simp only [spec_l14Sector.l0]
      refine evp (by omega) (evk hi (evk hn (evp i0 (evp (by omega) ?_))))
      rw [show wrap64 (((m + 1 : Nat) : Int) - 1) = (m : Int) from by unfold wrap64; omega]
      exact hs
  obtain ⟨m, rfl⟩ := Int.eq_ofNat_of_zero_le ha
  obtain ⟨s, q', d', hs, hs64, e1, e2⟩ := loop m (List.replicate 64 0) q d (by omega) (by omega) (by omega) (by simp)
  unfold spec_l14Sector.f
  exact ⟨s, q', d', evp (by omega) (evk h hs), hs64, by omega, by omega⟩
theorem disk2_ok {l : List Int} (hb : Bytes l) (s : List ByteArray) (hs : 0 < s.length) : ∀ (m : Nat) (w : List S55) (q d : Int), 602 ≤ w.length + m → w.length ≤ 700 → 0 ≤ q → q + m ≤ 900000 →
    ∃ w' q' d', Ev (fun k => spec_l14Disk.l2 k l q d s w) (s, w', q', d') ∧ w'.length ≤ 700 ∧ q ≤ q' ∧ q' ≤ q + m + 1 := by
  intro m
  induction m with
  | zero =>
    intro w q d h1 h2 h3 h4
    obtain ⟨a, q2, d2, h, ha, hl, e1, e2⟩ := pick_ok hb q d 3 h3 (by omega) (by omega)
    refine ⟨w, q2, d2, evsucc ?_, h2, by omega, by omega⟩
    simp only [spec_l14Disk.l2]
    refine evk h ?_
    rw [show wrap64 (599 + a) = 599 + a from by unfold wrap64; omega]
    exact evn (by omega) (evc fun _ => rfl)
  | succ m ih =>
    intro w q d h1 h2 h3 h4
    obtain ⟨a, q2, d2, h, ha, hl, e1, e2⟩ := pick_ok hb q d 3 h3 (by omega) (by omega)
    have e : wrap64 (599 + a) = 599 + a := by unfold wrap64; omega
    by_cases hw : (w.length : Int) < 599 + a
    · obtain ⟨w', q', d', hr, g1, g2, g3⟩ := ih (w ++ [⟨0, rdOf ByteArray.empty s 0⟩]) q2 d2 (by simp; omega) (by simp; omega) (by omega) (by omega)
      refine ⟨w', q', d', evsucc ?_, g1, by omega, by omega⟩
      simp only [spec_l14Disk.l2]
      refine evk h ?_
      rw [e]
      exact evp hw (evp (by omega) (evp (by omega) hr))
    · refine ⟨w, q2, d2, evsucc ?_, h2, by omega, by omega⟩
      simp only [spec_l14Disk.l2]
      refine evk h ?_
      rw [e]
      exact evn hw (evc fun _ => rfl)
theorem disk1_ok {l : List Int} (hb : Bytes l) (s : List ByteArray) (hs : 0 < s.length) (hs2 : s.length ≤ 100) (h64 : ∀ x ∈ s, x.size = 64) : ∀ (m : Nat) (w : List S55) (q d : Int), m ≤ 10 → w.length + m ≤ 20 → 0 ≤ q → q + 12 * m ≤ 20000 →
    ∃ s' w' q' d', Ev (fun k => spec_l14Disk.l1 k (s.length : Int) (m : Int) l q d s w) (s', w', q', d') ∧ s'.length ≤ 100 ∧ w'.length ≤ 700 ∧ q ≤ q' ∧ q' ≤ q + 12 * m + 700 := by
  intro m
  induction m with
  | zero =>
    intro w q d h1 h2 h3 h4
    obtain ⟨a, q2, d2, h, ha, hl, e1, e2⟩ := pick_ok hb q d 20 h3 (by omega) (by omega)
    by_cases a0 : a = 0
    · obtain ⟨x, q3, d3, hx, x0, _, e3, e4⟩ := pick_ok hb q2 d2 7 (by omega) (by omega) (by omega)
      obtain ⟨b, q4, d4, hbv, hb64, e5, e6⟩ := sector_ok hb q3 d3 (by omega) (by omega)
      obtain ⟨y, q5, d5, hy, y0, y1, e7, e8⟩ := pick_ok hb q4 d4 2 (by omega) (by omega) (by omega)
      refine ⟨s, w ++ [⟨wrap64 (x - 1), b.extract y.toNat b.size⟩], q5, d5, evsucc ?_, hs2, by simp; omega, by omega, by omega⟩
      simp only [spec_l14Disk.l1]
      refine evn (by omega) (evk h (evp a0 (evk hx (evb hbv (evk hy (evp y0 (evp (by rw [hb64]; omega) (evp (by omega) (evc fun _ => rfl)))))))))
    by_cases a1 : a = 1
    · have hz : (rdOf ByteArray.empty s 0).size = 64 := by
        have := rdStr_at (l := s) (i := 0) hs
        rw [show ((0 : Nat) : Int) = 0 from rfl] at this
        rw [this]
        exact h64 _ (List.getElem_mem hs)
      refine ⟨s.set 0 ((rdOf ByteArray.empty s 0).extract 1 (rdOf ByteArray.empty s 0).size), w, q2, d2, evsucc ?_, by simpa using hs2, by omega, by omega, by omega⟩
      simp only [spec_l14Disk.l1]
      exact evn (by omega) (evk h (evn a0 (evp a1 (evp (by omega) (evp (by omega) (evc fun _ => rfl))))))
    by_cases a2 : a = 2
    · refine ⟨[], w, q2, d2, evsucc ?_, by simp, by omega, by omega, by omega⟩
      simp only [spec_l14Disk.l1]
      exact evn (by omega) (evk h (evn a0 (evn a1 (evp a2 (evc fun _ => rfl)))))
    by_cases a3 : a = 3
    · obtain ⟨w', q', d', hr, g1, g2, g3⟩ := disk2_ok hb s hs 602 w q2 d2 (by omega) (by omega) (by omega) (by omega)
      refine ⟨s, w', q', d', evsucc ?_, hs2, g1, by omega, by omega⟩
      simp only [spec_l14Disk.l1]
      exact evn (by omega) (evk h (evn a0 (evn a1 (evn a2 (evp a3 hr)))))
    · refine ⟨s, w, q2, d2, evsucc ?_, hs2, by omega, by omega, by omega⟩
      simp only [spec_l14Disk.l1]
      exact evn (by omega) (evk h (evn a0 (evn a1 (evn a2 (evn a3 (evc fun _ => rfl))))))
  | succ m ih =>
    intro w q d h1 h2 h3 h4
    obtain ⟨a, q2, d2, h, ha, hl, e1, e2⟩ := pick_ok hb q d (s.length : Int) h3 (by omega) (by omega)
    obtain ⟨b, q3, d3, hbv, hb64, e3, e4⟩ := sector_ok hb q2 d2 (by omega) (by omega)
    obtain ⟨s', w', q', d', hr, g1, g2, g3, g4⟩ := ih (w ++ [⟨a, b⟩]) q3 d3 (by omega) (by simp; omega) (by omega) (by omega)
    refine ⟨s', w', q', d', evsucc ?_, g1, g2, by omega, by omega⟩
    simp only [spec_l14Disk.l1]
    refine evp (by omega) (evk h (evb hbv (evp (by omega) ?_)))
    rw [show wrap64 (((m + 1 : Nat) : Int) - 1) = (m : Int) from by unfold wrap64; omega]
    exact hr
theorem disk0_ok {l : List Int} (hb : Bytes l) (n : Nat) (hn0 : 0 < n) (hn : n ≤ 100) : ∀ (m i : Nat) (s : List ByteArray) (q d : Int), i + m = n → s.length = n → (∀ x ∈ s, x.size = 64) → 0 ≤ q → q + 11 * m ≤ 15000 →
    ∃ s' w' q' d', Ev (fun k => spec_l14Disk.l0 k (n : Int) (n : Int) (i : Int) l q d s []) (s', w', q', d') ∧ s'.length ≤ 100 ∧ w'.length ≤ 700 ∧ q ≤ q' ∧ q' ≤ q + 11 * m + 1000 := by
  intro m
  induction m with
  | zero =>
    intro i s q d hi hs h64 h0 h1
    obtain ⟨a, q2, d2, h, ha, hl, e1, e2⟩ := pick_ok hb q d 5 h0 (by omega) (by omega)
    obtain ⟨a, rfl⟩ := Int.eq_ofNat_of_zero_le ha
    obtain ⟨s', w', q', d', hr, g1, g2, g3, g4⟩ := disk1_ok hb s (by omega) (by omega) h64 a [] q2 d2 (by omega) (by simp; omega) (by omega) (by omega)
    refine ⟨s', w', q', d', evsucc ?_, g1, g2, by omega, by omega⟩
    simp only [spec_l14Disk.l0]
    rw [hs] at hr
    exact evn (by omega) (evk h hr)
  | succ m ih =>
    intro i s q d hi hs h64 h0 h1
    obtain ⟨b, q2, d2, hbv, hb64, e1, e2⟩ := sector_ok hb q d (by omega) (by omega)
    obtain ⟨s', w', q', d', hr, g1, g2, g3, g4⟩ := ih (i + 1) (s.set i b) q2 d2 (by omega) (by simpa using hs) (mem_set64 h64 hb64) (by omega) (by omega)
    refine ⟨s', w', q', d', evsucc ?_, g1, g2, by omega, by omega⟩
    simp only [spec_l14Disk.l0]
    refine evp (by omega) (evb hbv (evp (by omega) (evp (by omega) ?_)))
    rw [wsucc (n := n) (by omega) (by omega), Int.toNat_natCast]
    exact hr
theorem disk_drawn {l : List Int} (hb : Bytes l) (p c : Int) (h0 : 0 ≤ p) (h1 : p ≤ 1000) : ∃ s w q d, Ev (fun k => spec_l14Disk.f k l p c) (s, w, q, d) ∧ s.length ≤ 100 ∧ w.length ≤ 700 ∧ 0 ≤ q ∧ q ≤ 10000 := by
  obtain ⟨a, q, d, h, ha, hl, e1, e2⟩ := pick_ok hb p c 5 h0 (by omega) (by omega)
  have ew : wrap64 (1 + a) = 1 + a := by unfold wrap64; omega
  have hG : G (1 + a) = List.replicate (1 + a).toNat Z := by unfold G; rw [if_pos (by omega)]
  have hN := spec_eq (1 + a)
  have hlen : (G (1 + a)).length = (1 + a).toNat := by rw [hG, List.length_replicate]
  have h64 : ∀ x ∈ G (1 + a), x.size = 64 := by
    intro x hx
    rw [hG] at hx
    rw [List.eq_of_mem_replicate hx]
    unfold Z
    rw [strOf_size, List.length_replicate]
  generalize G (1 + a) = g at hN hlen h64
  obtain ⟨s', w', q', d', hr, g1, g2, g3, g4⟩ := disk0_ok hb g.length (by omega) (by omega) g.length 0 g q d (by omega) rfl h64 (by omega) (by omega)
  unfold spec_l14Disk.f
  refine ⟨s', w', q', d', evk h ?_, g1, g2, by omega, by omega⟩
  rw [ew]
  exact evb hN hr
theorem draw2_ok {l : List Int} (hb : Bytes l) (s : List ByteArray) (p : List S55) (keep : List Int) (q d : Int) (h0 : 0 ≤ q) (h1 : q ≤ 20000) : ∃ t, Ev (fun k => spec_DrawPowerLoss.j2 k keep l q d s p) (s, p, keep, t) := by
  obtain ⟨b, q2, d2, h, e1, e2⟩ := one_ok hb q d 2 h0 (by omega) (by omega)
  cases b with
  | true =>
    obtain ⟨a, q3, d3, h', _, _, e3, e4⟩ := pick_ok hb q2 d2 66 (by omega) (by omega) (by omega)
    refine ⟨a, evsucc ?_⟩
    simp only [spec_DrawPowerLoss.j2]
    exact evk h (evp rfl (evk h' (evc fun _ => rfl)))
  | false =>
    refine ⟨-1, evsucc ?_⟩
    simp only [spec_DrawPowerLoss.j2]
    exact evk h (evn (by simp) (evc fun _ => rfl))
theorem draw1_ok {l : List Int} (hb : Bytes l) (s : List ByteArray) (p : List S55) (i : Nat) (keep : List Int) (q d : Int) (hk : keep.length ≤ 8) (h0 : 0 ≤ q) (h1 : q ≤ 15000) : ∃ keep' t, Ev (fun k => spec_DrawPowerLoss.j1 k keep (i : Int) false l q d s p) (s, p, keep', t) ∧ keep'.length ≤ 9 := by
  obtain ⟨b, q2, d2, h, e1, e2⟩ := one_ok hb q d 12 h0 (by omega) (by omega)
  cases b with
  | true =>
    obtain ⟨a, q3, d3, h', _, _, e3, e4⟩ := pick_ok hb q2 d2 6 (by omega) (by omega) (by omega)
    obtain ⟨t, ht⟩ := draw2_ok hb s p (keep ++ [a]) q3 d3 (by omega) (by omega)
    refine ⟨keep ++ [a], t, evsucc ?_, by simp; omega⟩
    simp only [spec_DrawPowerLoss.j1]
    exact evn (by simp) (evk h (evp rfl (evk h' (evp (by omega) ht))))
  | false =>
    obtain ⟨t, ht⟩ := draw2_ok hb s p keep q2 d2 (by omega) (by omega)
    refine ⟨keep, t, evsucc ?_, by omega⟩
    simp only [spec_DrawPowerLoss.j1]
    exact evn (by simp) (evk h (evn (by simp) ht))
theorem draw0_ok {l : List Int} (hb : Bytes l) (s : List ByteArray) (p : List S55) : ∀ (m i : Nat) (keep : List Int) (q d : Int), i + m = 8 → keep.length ≤ i → 0 ≤ q → q + m ≤ 15000 →
    ∃ keep' t, Ev (fun k => spec_DrawPowerLoss.l0 k keep (i : Int) l q d s p) (s, p, keep', t) ∧ keep'.length ≤ 9 := by
  intro m
  induction m with
  | zero =>
    intro i keep q d hi hk h0 h1
    obtain ⟨keep', t, hr, g⟩ := draw1_ok hb s p i keep q d (by omega) h0 (by omega)
    refine ⟨keep', t, evsucc ?_, g⟩
    simp only [spec_DrawPowerLoss.l0]
    by_cases hp : (i : Int) < (p.length : Int)
    · rw [decide_eq_false (show ¬ (i : Int) < 8 by omega)]
      exact evp hp hr
    · exact evn hp hr
  | succ m ih =>
    intro i keep q d hi hk h0 h1
    by_cases hp : (i : Int) < (p.length : Int)
    · obtain ⟨b, q2, d2, h, e1, e2⟩ := one_ok hb q d 2 h0 (by omega) (by omega)
      have ew : wrap64 ((i : Int) + 1) = ((i + 1 : Nat) : Int) := by unfold wrap64; omega
      cases b with
      | true =>
        obtain ⟨keep', t, hr, g⟩ := ih (i + 1) (keep ++ [(i : Int)]) q2 d2 (by omega) (by simp; omega) (by omega) (by omega)
        refine ⟨keep', t, evsucc ?_, g⟩
        simp only [spec_DrawPowerLoss.l0]
        rw [decide_eq_true (show (i : Int) < 8 by omega)]
        refine evp hp (evsucc ?_)
        simp only [spec_DrawPowerLoss.j1]
        rw [ew]
        exact evp (by trivial) (evk h (evp rfl (evp (by omega) hr)))
      | false =>
        obtain ⟨keep', t, hr, g⟩ := ih (i + 1) keep q2 d2 (by omega) (by omega) (by omega) (by omega)
        refine ⟨keep', t, evsucc ?_, g⟩
        simp only [spec_DrawPowerLoss.l0]
        rw [decide_eq_true (show (i : Int) < 8 by omega)]
        refine evp hp (evsucc ?_)
        simp only [spec_DrawPowerLoss.j1]
        rw [ew]
        exact evp (by trivial) (evk h (evn (by simp) hr))
    · obtain ⟨keep', t, hr, g⟩ := draw1_ok hb s p i keep q d (by omega) h0 (by omega)
      refine ⟨keep', t, evsucc ?_, g⟩
      simp only [spec_DrawPowerLoss.l0]
      exact evn hp hr
theorem power_drawn {l : List Int} (hb : Bytes l) : ∃ s p keep t, Ev (fun k => spec_DrawPowerLoss.f k l) (s, p, keep, t) ∧ s.length ≤ 100 ∧ p.length ≤ 700 ∧ keep.length ≤ 1048576 := by
  obtain ⟨s, w, q, d, h, g1, g2, g3, g4⟩ := disk_drawn hb 0 0 (by omega) (by omega)
  obtain ⟨keep, t, hr, g⟩ := draw0_ok hb s w 8 0 [] q d (by omega) (by simp) g3 (by omega)
  unfold spec_DrawPowerLoss.f
  exact ⟨s, w, keep, t, evk rfl (evb h hr), g1, g2, by omega⟩
theorem flush_64 : ∀ (p : List S55) (s : List ByteArray), (∀ x ∈ s, x.size = 64) → (∀ x ∈ p, x.f1.size = 64) → ∀ x ∈ flush s p, x.size = 64
  | [], s, hs, _ => hs
  | y :: p, s, hs, hp => flush_64 p (s.set y.f0.toNat y.f1) (mem_set64 hs (hp y List.mem_cons_self)) (fun x hx => hp x (List.mem_cons_of_mem _ hx))
theorem diskB_nil {s : List ByteArray} (h0 : 1 ≤ s.length) (h1 : s.length ≤ 1200) (h : ∀ x ∈ s, x.size = 64) : diskB s [] = true := by
  unfold diskB
  simp only [Bool.and_eq_true, decide_eq_true_eq, List.all_eq_true, beq_iff_eq, List.length_nil]
  exact ⟨⟨⟨by omega, by omega⟩, fun x hx => by have := h x hx; omega⟩, by simp⟩
theorem set_rd (s : List ByteArray) (n : Nat) (v : ByteArray) (a : Int) (h0 : 0 ≤ a) (h1 : a < (s.length : Int)) : rdOf ByteArray.empty (s.set n v) a = if (n : Int) = a then v else rdOf ByteArray.empty s a := by
  obtain ⟨i, rfl⟩ := Int.eq_ofNat_of_zero_le h0
  rw [rdStr_at (l := s.set n v) (i := i) (by rw [List.length_set]; omega), rdStr_at (l := s) (i := i) (by omega), List.getElem_set]
  by_cases h : n = i
  · rw [if_pos h, if_pos (by omega)]
  · rw [if_neg h, if_neg (by omega)]
theorem found_flush : ∀ (p : List S55) (s : List ByteArray), (∀ x ∈ p, 0 ≤ x.f0 ∧ x.f0 ≤ (s.length : Int) - 1) → ∀ a : Int, 0 ≤ a → a < (s.length : Int) → found s p a = rdOf ByteArray.empty (flush s p) a := by
  intro p
  induction p with
  | nil => intro s _ a _ _; rfl
  | cons x p ih =>
    intro s hp a h0 h1
    have hx := hp x List.mem_cons_self
    have := ih (s.set x.f0.toNat x.f1) (fun y hy => by rw [List.length_set]; exact hp y (List.mem_cons_of_mem _ hy)) a h0 (by rw [List.length_set]; exact h1)
    show found s (x :: p) a = rdOf ByteArray.empty (flush (s.set x.f0.toNat x.f1) p) a
    rw [← this]
    unfold found
    rw [List.reverse_cons, List.find?_append]
    cases hf : p.reverse.find? (fun x => x.f0 == a) with
    | some y => rfl
    | none =>
      rw [Option.none_or, set_rd s x.f0.toNat x.f1 a h0 h1]
      by_cases hq : x.f0 = a
      · rw [List.find?_cons_of_pos (by simpa using hq), if_pos (by omega)]
      · rw [List.find?_cons_of_neg (by simpa using hq), if_neg (by omega)]
        rfl
theorem lost_same (p : List S55) (torn : Int) (n : Nat) (a : Int) (h0 : 0 ≤ a) (hn : ∀ x ∈ p, 0 ≤ x.f0 ∧ x.f0 ≠ a) : ∀ (keep : List Int) (i : Nat) (out : List ByteArray), a < (out.length : Int) → (∀ q ∈ keep, 0 ≤ q ∧ q < (p.length : Int)) →
    rdOf ByteArray.empty (lostFrom p torn n i keep out) a = rdOf ByteArray.empty out a := by
  intro keep
  induction keep with
  | nil => intro i out _ _; rfl
  | cons q r ih =>
    intro i out h1 hq
    have hqq := hq q List.mem_cons_self
    have hx := hn _ (rdP_int hqq.1 hqq.2)
    simp only [lostFrom]
    rw [ih (i + 1) _ (by rw [List.length_set]; exact h1) (fun y hy => hq y (List.mem_cons_of_mem _ hy)), set_rd _ _ _ _ h0 h1, if_neg (by omega)]
theorem power_same (s : List ByteArray) (p : List S55) (keep : List Int) (torn : Int) (i : Nat) (h : diskB s p = true) (hc : (powerR s p keep torn).2 = 0) (hi : i < s.length) (hn : ∀ x ∈ p, x.f0 ≠ (i : Int)) :
    rdOf ByteArray.empty (powerR s p keep torn).1 (i : Int) = rdOf ByteArray.empty s (i : Int) := by
  by_cases hl : lossOk p keep torn = true
  · rw [powerR_yes h hl]
    exact lost_same p torn keep.length (i : Int) (by omega) (fun x hx => ⟨(wait_of h x hx).1.1, hn x hx⟩) keep 0 s (by omega) (keep_of hl).1
  · rw [powerR_no h hl] at hc
    exact absurd hc (by decide)
theorem power_len (s : List ByteArray) (p : List S55) (keep : List Int) (torn : Int) (h : diskB s p = true) (hc : (powerR s p keep torn).2 = 0) : (powerR s p keep torn).1.length = s.length := by
  by_cases hl : lossOk p keep torn = true
  · rw [powerR_yes h hl]; exact lost_len _ _ _ _ _ _
  · rw [powerR_no h hl] at hc
    exact absurd hc (by decide)
theorem texts_ev (l : List ByteArray) (hn : l.length ≤ 17592186044416) : Ev (fun k => laws_b10Texts.f k l l) true := by
  unfold laws_b10Texts.f
  refine evp rfl (on_rows (n := l.length) (fun k i => laws_b10Texts.l0 k l l i) true (fun i h hr => ?_) ?_ l.length 0 (by omega))
  · apply evsucc
    simp only [laws_b10Texts.l0]
    refine evp (by omega) (evp (by omega) (evp (by omega) (evp (by trivial) ?_)))
    rw [wsucc h (by omega)]
    exact hr
  · apply evsucc
    simp only [laws_b10Texts.l0]
    exact evn (by omega) (evc fun _ => rfl)
/-- Which sectors a write waits on. -/
def markW : List Bool → List S55 → List Bool
  | m, [] => m
  | m, x :: p => markW (m.set x.f0.toNat true) p
theorem markW_len : ∀ (p : List S55) (m : List Bool), (markW m p).length = m.length
  | [], _ => rfl
  | x :: p, m => by simp [markW, markW_len p]
theorem rdB_at {l : List Bool} {i : Nat} (h : i < l.length) : rdOf false l (i : Int) = l[i] := by
  simp [rdOf, List.getD_eq_getElem?_getD, List.getElem?_eq_getElem h]
theorem markW_mono : ∀ (p : List S55) (m : List Bool) (i : Nat), m[i]? = some true → (markW m p)[i]? = some true
  | [], _, _, h => h
  | x :: p, m, i, h => markW_mono p _ i (by
      rw [List.getElem?_set]
      split
      · rename_i e
        subst e
        rw [if_pos (by have := (List.getElem?_eq_some_iff.1 h).1; omega)]
      · exact h)
theorem markW_true : ∀ (p : List S55) (m : List Bool) (i : Nat), i < m.length → (∃ x ∈ p, x.f0 = (i : Int)) → (markW m p)[i]? = some true
  | [], _, _, _, h => by obtain ⟨x, hx, _⟩ := h; cases hx
  | y :: p, m, i, hi, h => by
    obtain ⟨x, hx, e⟩ := h
    rcases List.mem_cons.1 hx with rfl | hx
    · exact markW_mono p _ i (by rw [e, Int.toNat_natCast, List.getElem?_set, if_pos rfl, if_pos hi])
    · exact markW_true p _ i (by rw [List.length_set]; exact hi) ⟨x, hx, e⟩
theorem marks_loop (s : List ByteArray) (p : List S55) (F : List ByteArray × List S55) (Y : List ByteArray × Int) (hp : p.length ≤ 5864062014639) (hw : ∀ x ∈ p, 0 ≤ x.f0 ∧ x.f0 ≤ (s.length : Int) - 1) : ∀ (d i : Nat) (m : List Bool), i + d = p.length → m.length = s.length →
    ∀ r, Ev (fun k => laws_FnDiskKeeps.l1 k Y.2 (markW m (p.drop i)) 0 s p F.1 F.2 Y.1 []) r → Ev (fun k => laws_FnDiskKeeps.l0 k Y.2 m (i : Int) s p F.1 F.2 Y.1 []) r := by
  intro d
  induction d with
  | zero =>
    intro i m h hm r hr
    apply evsucc
    simp only [laws_FnDiskKeeps.l0]
    rw [List.drop_of_length_le (by omega)] at hr
    exact evn (by omega) hr
  | succ d ih =>
    intro i m h hm r hr
    have hi : i < p.length := by omega
    have hx := hw p[i] (List.getElem_mem hi)
    apply evsucc
    simp only [laws_FnDiskKeeps.l0]
    rw [wsucc hi (by omega), rdP_at hi]
    refine evp (by omega) (evp (by omega) (evp hx.1 (evp (by omega) ?_)))
    refine ih (i + 1) _ (by omega) (by simpa using hm) r ?_
    rw [drop_at hi] at hr
    exact hr
theorem keeps_loop (s : List ByteArray) (p : List S55) (F : List ByteArray) (Y : List ByteArray × Int) (h : diskB s p = true) (hs : s.length ≤ 1200) (hp : p.length ≤ 5864062014639) (hF : F.length = s.length)
    (hfound : ∀ a : Int, 0 ≤ a → a < (s.length : Int) → found s p a = rdOf ByteArray.empty F a) (hlen : diskB s p = true → Y.2 = 0 → Y.1.length = s.length)
    (hsame : ∀ i : Nat, i < s.length → Y.2 = 0 → (∀ x ∈ p, x.f0 ≠ (i : Int)) → rdOf ByteArray.empty Y.1 (i : Int) = rdOf ByteArray.empty s (i : Int)) : ∀ (d i : Nat), i + d = s.length →
    Ev (fun k => laws_FnDiskKeeps.l1 k Y.2 (markW (List.replicate s.length false) p) (i : Int) s p F [] Y.1 []) true := by
  intro d
  have hml : (markW (List.replicate s.length false) p).length = s.length := by rw [markW_len, List.length_replicate]
  induction d with
  | zero =>
    intro i hi
    apply evsucc
    simp only [laws_FnDiskKeeps.l1]
    exact evn (by omega) (evc fun _ => rfl)
  | succ d ih =>
    intro i hi
    have hlt : i < s.length := by omega
    have hnext := ih (i + 1) (by omega)
    apply evsucc
    simp only [laws_FnDiskKeeps.l1]
    have hr : impl_ReadSector.f s p (i : Int) = some (rdOf ByteArray.empty F (i : Int), 0) := by
      rw [readImpl]
      unfold readR
      rw [if_pos h, if_pos (by omega), hfound (i : Int) (by omega) (by omega)]
    refine evp (by omega) (evk hr (evp rfl (evp (by omega) (evp (by omega) (evsucc ?_)))))
    simp only [laws_FnDiskKeeps.j3]
    rw [wsucc hlt (by omega)]
    refine evn (by simp) ?_
    by_cases hc : Y.2 = 0
    · have hyl := hlen h hc
      refine evp hc (evp (by omega) (evp (by omega) (evp (by omega) ?_)))
      rw [rdB_at (l := markW (List.replicate s.length false) p) (i := i) (by omega)]
      by_cases hm : (markW (List.replicate s.length false) p)[i]'(by omega) = true
      · exact evp hm hnext
      · have hno : ∀ x ∈ p, x.f0 ≠ (i : Int) := fun x hx e => hm (by
          have := markW_true p (List.replicate s.length false) i (by simpa using hlt) ⟨x, hx, e⟩
          obtain ⟨_, h2⟩ := List.getElem?_eq_some_iff.1 this
          exact h2)
        refine evn hm (evp (by omega) (evp (by omega) (evp (by rw [hsame i hlt hc hno]) hnext)))
    · exact evn hc hnext
theorem FnDiskKeeps : Stmt.FnDiskKeeps.PureS := by
  intro l l1 ⟨hl0, hl1, hb0⟩ _
  apply ev_ex
  unfold laws_FnDiskKeeps.f laws_b10Long.f
  by_cases g : (l.length : Int) > 1048576
  · rw [if_pos g]
    exact evk rfl (evp rfl (evc fun _ => rfl))
  rw [if_neg g]
  refine evk rfl ?_
  by_cases g1 : (l1.length : Int) > 1048576
  · exact evp (by simpa using g1) (evc fun _ => rfl)
  refine evn (by simpa using g1) ?_
  obtain ⟨s, p, keep, torn, hd, e1, e2, e3⟩ := power_drawn (l := l) (fun x hx => by have := (wf_u8 x).mp (hb0 x hx); omega)
  refine evb hd (evb (diskSpec s p (by omega) (by omega)) ?_)
  by_cases h : diskB s p = true
  · have hL := lens_of h
    have hW := wait_of h
    have hF := flush_len p s
    have hF64 := flush_64 p s hL.2.2 (fun x hx => (hW x hx).2)
    have hfd : flushR s p = flush s p := by unfold flushR; rw [if_pos h]
    have hI := flushImpl s p (by omega) (by omega)
    rw [hfd] at hI
    have hdF : diskB (flush s p) [] = true := diskB_nil (by omega) (by omega) hF64
    have hP2 := powerImpl (flush s p) [] [] (-1) (by omega) (by simp) (by simp)
    rw [powerR_yes hdF (by rfl)] at hP2
    refine evp h (evb hI (evb (powerImpl s p keep torn (by omega) (by omega) e3) (evb hP2 ?_)))
    refine evp (by show ((flush s p).length : Int) = (s.length : Int); omega) (evp (by rfl) (evp (by rfl) (evb (texts_ev (flush s p) (by omega)) (evsucc ?_))))
    simp only [laws_FnDiskKeeps.j0]
    refine evn (by simp) (evp (by omega) (evp (by rw [Int.toNat_natCast]; omega) ?_))
    have hfound := found_flush p s (fun x hx => (hW x hx).1)
    have hsame := fun i => power_same s p keep torn i
    have hlen := power_len s p keep torn
    generalize flush s p = F at hF hF64 hfound ⊢
    generalize powerR s p keep torn = Y at hsame hlen ⊢
    have hm := marks_loop s p (F, []) Y (by omega) (fun x hx => (hW x hx).1) p.length 0 (List.replicate s.length false) (by omega) (by simp)
    refine hm true ?_
    rw [List.drop_zero]
    exact keeps_loop s p F Y h (by omega) (by omega) hF hfound hlen (fun i hi h0 hn => hsame i h h0 hi hn) s.length 0 (by omega)
  · exact evn h (evc fun _ => rfl)
end Go.Proofs.Ythphhklbliambaa.Pure
