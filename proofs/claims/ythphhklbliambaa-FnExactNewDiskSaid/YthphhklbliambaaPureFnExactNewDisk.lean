/- The program's NewDisk and the reference's give one disk, in memory of its own, and one code, at every number of sectors. No other condition. -/
import Derived.Test.YthphhklbliambaaStmtFnExactNewDisk
set_option linter.unusedSimpArgs false
set_option linter.unusedVariables false
namespace Go.Proofs.Ythphhklbliambaa.Pure
open Go.RowKit Go.Proofs.Ythphhklbliambaa.MFnExactNewDisk Go.Proofs.YthphhklbliambaaW.PrintWords Go.Proofs.YthphhklbliambaaW.PrintLast
theorem evc {α : Type} {g : Nat → Option α} {r : α} (h : ∀ k, g k = some r) : Ev g r := ⟨0, fun k _ => h k⟩
theorem evsucc {α : Type} {g : Nat → Option α} {r : α} (h : Ev (fun k => g (k + 1)) r) : Ev g r := by
  obtain ⟨K, hK⟩ := h
  refine ⟨K + 1, fun k hk => ?_⟩
  obtain ⟨k, rfl⟩ : ∃ m, k = m + 1 := ⟨k - 1, by omega⟩
  exact hK k (by omega)
theorem evp {α : Type} {c : Prop} [Decidable c] {g f : Nat → Option α} {r : α} (hc : c) (h : Ev g r) : Ev (fun k => if c then g k else f k) r := by
  simp only [if_pos hc]; exact h
theorem evn {α : Type} {c : Prop} [Decidable c] {g f : Nat → Option α} {r : α} (hc : ¬ c) (h : Ev f r) : Ev (fun k => if c then g k else f k) r := by
  simp only [if_neg hc]; exact h
theorem evb {α β : Type} {g : Nat → Option α} {f : Nat → α → Option β} {a : α} {r : β} (h : Ev g a) (k : Ev (fun n => f n a) r) : Ev (fun n => (g n).bind (f n)) r := Ev.bind h k
theorem evk {α β : Type} {g : Option α} {f : Nat → α → Option β} {a : α} {r : β} (h : g = some a) (k : Ev (fun n => f n a) r) : Ev (fun n => g.bind (f n)) r := by subst h; exact k
theorem ev_ex {α : Type} {g : Nat → Option α} {r : α} (h : Ev g r) : ∃ k, g k = some r := by obtain ⟨K, hK⟩ := h; exact ⟨K, hK K (Nat.le_refl _)⟩
theorem wsucc {i n : Nat} (h : i < n) (hn : n ≤ 140737488351232) : wrap64 ((i : Int) + 1) = ((i + 1 : Nat) : Int) := by unfold wrap64; omega
theorem rd_at {l : List Int} {i : Nat} (h : i < l.length) : rd l (i : Int) = l[i] := by
  simp [rd, List.getD_eq_getElem?_getD, List.getElem?_eq_getElem h]
theorem drop_at {α : Type} {l : List α} {i : Nat} (h : i < l.length) : l.drop i = l[i] :: l.drop (i + 1) := List.drop_eq_getElem_cons h
theorem take_at {α : Type} {l : List α} {i : Nat} (h : i < l.length) : l.take (i + 1) = l.take i ++ [l[i]] := by
  rw [List.take_succ_eq_append_getElem h]
theorem l00In_eq (a b c : Int) : spec_l00In.f a b c = some (decide (b ≤ a ∧ a ≤ c)) := by
  unfold spec_l00In.f
  by_cases h : a ≥ b
  · have h' : b ≤ a := h
    simp [h, h']
  · have h' : ¬ b ≤ a := h
    simp [h, h']
/-- Every element of a row taken over into a row made ahead. -/
theorem to_rows {α β : Type} (L : Nat → List β → Int → Option (List β)) (conv : α → β) (xs : List α)
    (hs : ∀ (i : Nat) (ys : List β) (h : i < xs.length), ys.length = xs.length → ∀ r, Ev (fun k => L k (ys.set i (conv xs[i])) ((i + 1 : Nat) : Int)) r → Ev (fun k => L k ys (i : Int)) r)
    (he : ∀ ys, Ev (fun k => L k ys (xs.length : Int)) ys) : ∀ (d i : Nat) (ys : List β), i + d = xs.length → ys.length = xs.length → ys.take i = (xs.take i).map conv → Ev (fun k => L k ys (i : Int)) (xs.map conv) := by
  intro d
  induction d with
  | zero =>
    intro i ys h hl ht
    obtain rfl : i = xs.length := by omega
    rw [← hl, List.take_length, hl, List.take_length] at ht
    subst ht
    exact he _
  | succ d ih =>
    intro i ys h hl ht
    have hi : i < xs.length := by omega
    refine hs i ys hi hl _ (ih (i + 1) _ (by omega) (by simpa using hl) ?_)
    rw [take_at (by simp; omega), take_at hi, List.take_set_of_le (by omega), ht, List.map_append]
    simp only [List.getElem_set_self, List.map_cons, List.map_nil]
/-- A loop that asks something of each element, and goes on. -/
theorem on_rows {β : Type} {n : Nat} (L : Nat → Int → Option β) (r : β) (hs : ∀ i : Nat, i < n → Ev (fun k => L k ((i + 1 : Nat) : Int)) r → Ev (fun k => L k (i : Int)) r) (he : Ev (fun k => L k (n : Int)) r) :
    ∀ (d i : Nat), i + d = n → Ev (fun k => L k (i : Int)) r := by
  intro d
  induction d with
  | zero => intro i h; obtain rfl : i = n := by omega
            exact he
  | succ d ih => intro i h; exact hs i (by omega) (ih (i + 1) (by omega))
theorem exb {α β : Type} {g : Nat → Option α} {f : Nat → α → Option β} (h : ∃ a, Ev g a) (k : ∀ a, ∃ r, Ev (fun n => f n a) r) : ∃ r, Ev (fun n => (g n).bind (f n)) r := by
  obtain ⟨a, ha⟩ := h
  obtain ⟨r, hr⟩ := k a
  exact ⟨r, evb ha hr⟩
theorem exk {α β : Type} {g : Option α} {f : Nat → α → Option β} (h : ∃ a, g = some a) (k : ∀ a, ∃ r, Ev (fun n => f n a) r) : ∃ r, Ev (fun n => g.bind (f n)) r := by
  obtain ⟨a, rfl⟩ := h
  exact k a
theorem exi {α : Type} {c : Prop} [Decidable c] {g f : Nat → Option α} (h1 : ∃ r, Ev g r) (h2 : ∃ r, Ev f r) : ∃ r, Ev (fun k => if c then g k else f k) r := by
  by_cases h : c
  · simp only [if_pos h]; exact h1
  · simp only [if_neg h]; exact h2
theorem exp_ {α : Type} {c : Prop} [Decidable c] {g f : Nat → Option α} (h : c) (h1 : ∃ r, Ev g r) : ∃ r, Ev (fun k => if c then g k else f k) r := by
  simp only [if_pos h]; exact h1
theorem exn_ {α : Type} {c : Prop} [Decidable c] {g f : Nat → Option α} (h : ¬ c) (h2 : ∃ r, Ev f r) : ∃ r, Ev (fun k => if c then g k else f k) r := by
  simp only [if_neg h]; exact h2
theorem exc {α : Type} (r : α) : ∃ q : α, Ev (fun _ : Nat => some r) q := ⟨r, evc fun _ => rfl⟩
theorem exs {α : Type} {g : Nat → Option α} (h : ∃ r, Ev (fun k => g (k + 1)) r) : ∃ r, Ev g r := by
  obtain ⟨r, hr⟩ := h
  exact ⟨r, evsucc hr⟩
/-- A loop over a row, whatever it carries, ends. -/
theorem ex_rows {σ β : Type} {n : Nat} (L : Nat → σ → Int → Option β) (hs : ∀ (i : Nat) (s : σ), i < n → (∀ s', ∃ r, Ev (fun k => L k s' ((i + 1 : Nat) : Int)) r) → ∃ r, Ev (fun k => L k s (i : Int)) r) (he : ∀ s, ∃ r, Ev (fun k => L k s (n : Int)) r) :
    ∀ (d i : Nat) (s : σ), i + d = n → ∃ r, Ev (fun k => L k s (i : Int)) r := by
  intro d
  induction d with
  | zero => intro i s h; obtain rfl : i = n := by omega
            exact he s
  | succ d ih => intro i s h; exact hs i s (by omega) (fun s' => ih (i + 1) s' (by omega))
theorem rdStr_at {l : List ByteArray} {i : Nat} (h : i < l.length) : rdOf ByteArray.empty l (i : Int) = l[i] := by
  simp [rdOf, List.getD_eq_getElem?_getD, List.getElem?_eq_getElem h]
theorem exv {α β : Type} {g : Option α} {f : Nat → α → Option β} {a : α} (h : g = some a) (k : ∃ r, Ev (fun n => f n a) r) : ∃ r, Ev (fun n => g.bind (f n)) r := by
  subst h
  exact k
theorem eqStrs_ev (l : List ByteArray) (hn : l.length ≤ 17592186044416) : Ev (fun k => laws_eqStringS.f k l l) true := by
  unfold laws_eqStringS.f
  refine evp rfl (on_rows (n := l.length) (fun k i => laws_eqStringS.l0 k l l i) true (fun i h hr => ?_) ?_ l.length 0 (by omega))
  · apply evsucc
    simp only [laws_eqStringS.l0]
    refine evp (by omega) (evp (by omega) (evp (by omega) (evp (by trivial) ?_)))
    rw [wsucc h (by omega)]
    exact hr
  · apply evsucc
    simp only [laws_eqStringS.l0]
    exact evn (by omega) (evc fun _ => rfl)
theorem rdP_at {l : List S55} {i : Nat} (h : i < l.length) : rd_T55 l (i : Int) = l[i] := by
  simp [rd_T55, List.getD_eq_getElem?_getD, List.getElem?_eq_getElem h]
theorem eqPends_ev (l : List S55) (hn : l.length ≤ 11728124029610) : Ev (fun k => laws_eqPendingS.f k l l) true := by
  unfold laws_eqPendingS.f
  refine evp rfl (on_rows (n := l.length) (fun k i => laws_eqPendingS.l0 k l l i) true (fun i h hr => ?_) ?_ l.length 0 (by omega))
  · apply evsucc
    simp only [laws_eqPendingS.l0]
    refine evp (by omega) (evp (by omega) (evp (by omega) (evk (a := true) (by simp [laws_eqPending.f]) (evp rfl ?_))))
    rw [wsucc h (by omega)]
    exact hr
  · apply evsucc
    simp only [laws_eqPendingS.l0]
    exact evn (by omega) (evc fun _ => rfl)
theorem eqDisk_ev (s : List ByteArray) (p : List S55) (hs : s.length ≤ 8796093021968) (hp : p.length ≤ 5864062014639) : Ev (fun k => laws_eqDisk.f k s p s p) true := by
  unfold laws_eqDisk.f
  exact evb (eqStrs_ev s (by omega)) (evp rfl (evb (eqPends_ev p (by omega)) (evp rfl (evc fun _ => rfl))))
/-- What the marks are. -/
def marks {β : Type} (val : Int → β) (c : Int) : Int → Nat → List β
  | _, 0 => []
  | v, n + 1 => val v :: marks val c (v + c) n
theorem marks_len {β : Type} (val : Int → β) (c : Int) : ∀ (n : Nat) (v : Int), (marks val c v n).length = n
  | 0, _ => rfl
  | n + 1, v => by simp [marks, marks_len val c n]
theorem mark_rows {β : Type} (L : Nat → List β → Int → Int → Option (Int × List β)) (val : Int → β) (c : Int) (n : Nat) (B : Int) (hc : 0 ≤ c)
    (hs : ∀ (i : Nat) (ys : List β) (v : Int), i < n → ys.length = n → 0 ≤ v → v + c ≤ B → ∀ r, Ev (fun k => L k (ys.set i (val v)) (v + c) ((i + 1 : Nat) : Int)) r → Ev (fun k => L k ys v (i : Int)) r)
    (he : ∀ (ys : List β) (v : Int), ys.length = n → Ev (fun k => L k ys v (n : Int)) (v, ys)) : ∀ (d i : Nat) (ys : List β) (v : Int), i + d = n → ys.length = n → 0 ≤ v → v + c * (d : Int) ≤ B →
    Ev (fun k => L k ys v (i : Int)) (v + c * (d : Int), ys.take i ++ marks val c v d) := by
  intro d
  induction d with
  | zero =>
    intro i ys v h hl _ _
    obtain rfl : i = n := by omega
    have := he ys v hl
    simpa [marks, List.take_of_length_le (show ys.length ≤ i by omega)] using this
  | succ d ih =>
    intro i ys v h hl hv hb
    have e : v + c * ((d + 1 : Nat) : Int) = v + c + c * (d : Int) := by
      rw [Int.natCast_add, Int.mul_add, Int.natCast_one, Int.mul_one]; omega
    have hcd : 0 ≤ c * (d : Int) := Int.mul_nonneg hc (by omega)
    rw [e] at hb ⊢
    refine hs i ys v (by omega) hl hv (by omega) _ ?_
    have := ih (i + 1) (ys.set i (val v)) (v + c) (by omega) (by simpa using hl) (by omega) hb
    rw [take_at (by simp; omega), List.take_set_of_le (by omega)] at this
    simpa [marks] using this
theorem held_rows {β : Type} (L : Nat → Int → Int → Option Int) (val : Int → β) (c : Int) (x : List β) (B : Int) (hc : 0 ≤ c)
    (hs : ∀ (i : Nat) (v : Int) (h : i < x.length), x[i] = val v → 0 ≤ v → v + c ≤ B → ∀ r, Ev (fun k => L k (v + c) ((i + 1 : Nat) : Int)) r → Ev (fun k => L k v (i : Int)) r)
    (he : ∀ v : Int, Ev (fun k => L k v (x.length : Int)) v) : ∀ (d i : Nat) (v : Int), i + d = x.length → 0 ≤ v → v + c * (d : Int) ≤ B → x.drop i = marks val c v d →
    Ev (fun k => L k v (i : Int)) (v + c * (d : Int)) := by
  intro d
  induction d with
  | zero =>
    intro i v h _ _ _
    obtain rfl : i = x.length := by omega
    simpa using he v
  | succ d ih =>
    intro i v h hv hb hd
    have e : v + c * ((d + 1 : Nat) : Int) = v + c + c * (d : Int) := by
      rw [Int.natCast_add, Int.mul_add, Int.natCast_one, Int.mul_one]; omega
    have hcd : 0 ≤ c * (d : Int) := Int.mul_nonneg hc (by omega)
    rw [e] at hb ⊢
    have hi : i < x.length := by omega
    rw [drop_at hi] at hd
    simp only [marks, List.cons.injEq] at hd
    exact hs i v hi hd.1 hv (by omega) _ (ih (i + 1) (v + c) (by omega) (by omega) hb hd.2)
theorem strOne (x : Int) : (strOfNums [x]).size = 1 := rfl
theorem markText_loop : ∀ (d : Nat) (v : Int) (acc : ByteArray), 0 ≤ v → v ≤ d → acc.size + d ≤ 4611686018427387904 → ∃ t, Ev (fun k => laws_markText.l0 k v acc) t := by
  intro d
  induction d with
  | zero =>
    intro v acc h0 h1 hb
    apply exs
    simp only [laws_markText.l0]
    exact exn_ (by omega) (exp_ (by omega) (exc _))
  | succ d ih =>
    intro v acc h0 h1 hb
    apply exs
    simp only [laws_markText.l0]
    by_cases h : v > 0
    · refine exp_ h (exv rfl (exp_ (by rw [strOne]; omega) ?_))
      have e : wrap64 (Int.tdiv v 10) = v / 10 := by
        rw [Int.tdiv_eq_ediv_of_nonneg h0]
        unfold wrap64; omega
      rw [e]
      exact ih _ _ (by omega) (by omega) (by rw [ByteArray.size_append, strOne]; omega)
    · exact exn_ h (exp_ (by omega) (exc _))
theorem markText_ex (v : Int) (h0 : 0 ≤ v) (h1 : v ≤ 1152921504606846976) : ∃ t, Ev (fun k => laws_markText.f k v) t := by
  unfold laws_markText.f
  refine exi (exc _) (markText_loop v.toNat v _ h0 (by omega) ?_)
  have : (⟨#[]⟩ : ByteArray).size = 0 := rfl
  omega
/-- The text of a mark. -/
noncomputable def mt (v : Int) : ByteArray := Classical.epsilon fun t => Ev (fun k => laws_markText.f k v) t
theorem mt_ev (v : Int) (h0 : 0 ≤ v) (h1 : v ≤ 1152921504606846976) : Ev (fun k => laws_markText.f k v) (mt v) := Classical.epsilon_spec (markText_ex v h0 h1)
theorem wadd {v : Int} {n : Int} (h0 : 0 ≤ v) (h1 : v ≤ 1152921504606846976) (hn : 0 ≤ n) (hn2 : n ≤ 2) : wrap64 (v + n) = v + n := by unfold wrap64; omega
theorem markStrs_ev (x : List ByteArray) (v : Int) (hx : x.length ≤ 17592186044416) (h0 : 0 ≤ v) (h1 : v ≤ 17592186044416) : Ev (fun k => laws_markStringS.f k x v) (v + 1 * (x.length : Int), marks mt 1 v x.length) := by
  unfold laws_markStringS.f
  have := mark_rows (fun k ys v i => laws_markStringS.l0 k ys v i) mt 1 x.length 1152921504606846976 (by omega) (fun i ys v hi hl hv hb r hr => by
    apply evsucc
    simp only [laws_markStringS.l0]
    refine evp (by omega) (evb (mt_ev v hv (by omega)) (evp (by omega) ?_))
    rw [wsucc hi (by omega), wadd hv (by omega) (by omega) (by omega), Int.toNat_natCast]
    exact hr) (fun ys v hl => by
    apply evsucc
    simp only [laws_markStringS.l0]
    exact evn (by omega) (evc fun _ => rfl)) x.length 0 x v (by omega) rfl h0 (by omega)
  simpa using this
theorem heldStrs_ev (n : Nat) (v : Int) (hx : n ≤ 17592186044416) (h0 : 0 ≤ v) (h1 : v ≤ 17592186044416) : Ev (fun k => laws_heldStringS.f k (marks mt 1 v n) v) (v + 1 * (n : Int)) := by
  unfold laws_heldStringS.f
  have hl := marks_len mt 1 n v
  obtain ⟨x, hxe⟩ : ∃ x, x = marks mt 1 v n := ⟨_, rfl⟩
  rw [← hxe] at hl ⊢
  have := held_rows (fun k v i => laws_heldStringS.l0 k x v i) mt 1 x 1152921504606846976 (by omega) (fun i v hi he hv hb r hr => by
    apply evsucc
    simp only [laws_heldStringS.l0]
    refine evp (by omega) (evp (by omega) (evb (mt_ev v hv (by omega)) (evp (by rw [rdStr_at hi, he]) ?_)))
    rw [wsucc hi (by omega), wadd hv (by omega) (by omega) (by omega)]
    exact hr) (fun v => by
    apply evsucc
    simp only [laws_heldStringS.l0]
    exact evn (by omega) (evc fun _ => rfl)) x.length 0 v (by omega) h0 (by omega) (by rw [hl]; simpa using hxe)
  rw [hl] at this
  exact this
noncomputable def mp (v : Int) : S55 := ⟨v, mt (v + 1)⟩
theorem markPends_ev (x : List S55) (v : Int) (hx : x.length ≤ 17592186044416) (h0 : 0 ≤ v) (h1 : v ≤ 35184372088832) : Ev (fun k => laws_markPendingS.f k x v) (v + 2 * (x.length : Int), marks mp 2 v x.length) := by
  unfold laws_markPendingS.f
  have := mark_rows (fun k ys v i => laws_markPendingS.l0 k ys v i) mp 2 x.length 1152921504606846976 (by omega) (fun i ys v hi hl hv hb r hr => by
    apply evsucc
    simp only [laws_markPendingS.l0]
    refine evp (by omega) (evp (by omega) (evk rfl ?_))
    rw [wsucc hi (by omega), wadd hv (by omega) (show (0 : Int) ≤ 1 by omega) (by omega), wadd (show 0 ≤ v + 1 by omega) (by omega) (by omega) (by omega), Int.toNat_natCast]
    refine evb (mt_ev (v + 1) (by omega) (by omega)) ?_
    rw [show v + 1 + 1 = v + 2 by omega, rdP_at (l := ys.set i ⟨v, (rd_T55 ys i).f1⟩) (by rw [List.length_set]; omega)]
    simpa [mp] using hr) (fun ys v hl => by
    apply evsucc
    simp only [laws_markPendingS.l0]
    exact evn (by omega) (evc fun _ => rfl)) x.length 0 x v (by omega) rfl h0 (by omega)
  simpa using this
theorem heldPends_ev (n : Nat) (v : Int) (hx : n ≤ 17592186044416) (h0 : 0 ≤ v) (h1 : v ≤ 35184372088832) : Ev (fun k => laws_heldPendingS.f k (marks mp 2 v n) v) (v + 2 * (n : Int)) := by
  unfold laws_heldPendingS.f
  have hl := marks_len mp 2 n v
  obtain ⟨x, hxe⟩ : ∃ x, x = marks mp 2 v n := ⟨_, rfl⟩
  rw [← hxe] at hl ⊢
  have := held_rows (fun k v i => laws_heldPendingS.l0 k x v i) mp 2 x 1152921504606846976 (by omega) (fun i v hi he hv hb r hr => by
    apply evsucc
    simp only [laws_heldPendingS.l0]
    rw [wsucc hi (by omega), wadd hv (by omega) (show (0 : Int) ≤ 1 by omega) (by omega), wadd (show 0 ≤ v + 1 by omega) (by omega) (by omega) (by omega), rdP_at hi, he]
    refine evp (by omega) (evp (by omega) (evp rfl (evb (mt_ev (v + 1) (by omega) (by omega)) (evp rfl ?_))))
    rw [show v + 1 + 1 = v + 2 by omega]
    exact hr) (fun v => by
    apply evsucc
    simp only [laws_heldPendingS.l0]
    exact evn (by omega) (evc fun _ => rfl)) x.length 0 v (by omega) h0 (by omega) (by rw [hl]; simpa using hxe)
  rw [hl] at this
  exact this
/-- The marks of a disk. -/
noncomputable def mdS (s : List ByteArray) : List ByteArray := marks mt 1 1 s.length
noncomputable def mdP (s : List ByteArray) (p : List S55) : List S55 := marks mp 2 (1 + 1 * (s.length : Int)) p.length
def mdN (s : List ByteArray) (p : List S55) : Int := 1 + 1 * (s.length : Int) + 2 * (p.length : Int)
theorem markDisk_ev (s : List ByteArray) (p : List S55) (hs : s.length ≤ 8796093021968) (hp : p.length ≤ 5864062014639) : Ev (fun k => laws_markDisk.f k s p 1) (mdN s p, mdS s, mdP s p) := by
  unfold laws_markDisk.f
  exact evb (markStrs_ev s 1 (by omega) (by omega) (by omega)) (evb (markPends_ev p _ (by omega) (by omega) (by omega)) (evc fun _ => rfl))
theorem heldDisk_ev (s : List ByteArray) (p : List S55) (hs : s.length ≤ 8796093021968) (hp : p.length ≤ 5864062014639) : Ev (fun k => laws_heldDisk.f k (mdS s) (mdP s p) 1) (mdN s p) := by
  unfold laws_heldDisk.f mdS mdP
  refine evb (heldStrs_ev s.length 1 (by omega) (by omega) (by omega)) (evn (by omega) (evb (heldPends_ev p.length _ (by omega) (by omega) (by omega)) (evn (by omega) (evc fun _ => rfl))))
theorem mdN_pos (s : List ByteArray) (p : List S55) : ¬ mdN s p < 0 := by unfold mdN; omega
theorem between_eq (a b c : Int) : impl_between.f a b c = some (decide (b ≤ a ∧ a ≤ c)) := by
  unfold impl_between.f
  by_cases h : a ≥ b
  · rw [if_pos h]; congr 1; simp [h]
  · rw [if_neg h]; congr 1; simp [show ¬ b ≤ a from h]
def Z : ByteArray := strOfNums (List.replicate 64 0)
theorem zero_eq : impl_zeroSector.f = some Z := by
  kernel_rfl
theorem spec_loop (n : Nat) (hn : n ≤ 1200) (a : Int) (ha : a = (n : Int)) : ∀ (d i : Nat) (acc : List ByteArray), i + d = n → acc = List.replicate i Z →
    Ev (fun k => spec_NewDisk.l0 k a Z (i : Int) acc) (List.replicate n Z, ([] : List S55), 0) := by
  intro d
  induction d with
  | zero =>
    intro i acc h e
    apply evsucc
    simp only [spec_NewDisk.l0]
    obtain rfl : i = n := by omega
    subst e
    exact evn (by omega) (evc fun _ => rfl)
  | succ d ih =>
    intro i acc h e
    apply evsucc
    simp only [spec_NewDisk.l0]
    subst e
    refine evp (by omega) (evp (by rw [List.length_replicate]; omega) ?_)
    rw [wsucc (n := n) (by omega) (by omega)]
    exact ih (i + 1) _ (by omega) (by rw [List.replicate_succ'])
def G (a : Int) : List ByteArray := if 1 ≤ a ∧ a ≤ 1200 then List.replicate a.toNat Z else []
def E (a : Int) : Int := if 1 ≤ a ∧ a ≤ 1200 then 0 else 2
theorem spec_eq (a : Int) : Ev (fun k => spec_NewDisk.f k a) (G a, ([] : List S55), E a) := by
  unfold spec_NewDisk.f
  rw [l00In_eq]
  refine evk rfl ?_
  by_cases h : 1 ≤ a ∧ a ≤ 1200
  · refine evp (by simpa using h) (evp (by omega) ?_)
    unfold G E
    rw [if_pos h, if_pos h]
    exact spec_loop a.toNat (by omega) a (by omega) a.toNat 0 [] (by omega) rfl
  · refine evn (by simpa using h) (evc fun _ => ?_)
    unfold G E
    rw [if_neg h, if_neg h]
theorem impl_eq (a : Int) : impl_NewDisk.f a = some (G a, ([] : List S55), E a) := by
  unfold impl_NewDisk.f
  rw [between_eq]
  show (if decide (1 ≤ a ∧ a ≤ 1200) = true then _ else _) = _
  unfold G E
  by_cases h : 1 ≤ a ∧ a ≤ 1200
  · rw [if_pos (by simpa using h), if_pos h, if_pos h]
    unfold impl_newDisk.f
    rw [zero_eq]
    show (((slices_Repeat_string_string.f [Z] a).bind _).bind _) = _
    unfold slices_Repeat_string_string.f
    rw [if_pos ⟨rfl, h.1, by omega⟩]
    rfl
  · rw [if_neg (by simpa using h), if_neg h, if_neg h]
theorem G_len (a : Int) : (G a).length ≤ 1200 := by
  unfold G
  split
  · rw [List.length_replicate]; omega
  · exact Nat.zero_le _
theorem FnExactNewDisk : Stmt.FnExactNewDisk.PureS := by
  intro a _
  apply ev_ex
  unfold laws_FnExactNewDisk.f
  have hl := G_len a
  have h1 := spec_eq a
  have h2 := impl_eq a
  generalize G a = g at hl h1 h2
  generalize E a = e at h1 h2
  have he := eqDisk_ev g [] (by omega) (by simp)
  have hm := markDisk_ev g [] (by omega) (by simp)
  have hh := heldDisk_ev g [] (by omega) (by simp)
  refine evb h1 (evk h2 (evb he (evp rfl ?_)))
  apply evsucc
  simp only [laws_FnExactNewDisk.j0]
  refine evn (by simp) (evb hm (evb hh (evn (mdN_pos _ _) (evp rfl (evk h2 (evb he (evp rfl ?_)))))))
  apply evsucc
  simp only [laws_FnExactNewDisk.j1]
  exact evn (by simp) (evb hh (evn (mdN_pos _ _) (evp rfl (evc fun _ => rfl))))
end Go.Proofs.Ythphhklbliambaa.Pure
