/- The program's WideBody and the reference's give one body at every striped object. The object: any within the reach. -/
import Derived.Test.YtmpakjgbbjkacaaStmtFnExactWideBody
set_option linter.unusedSimpArgs false
set_option linter.unusedVariables false
namespace Go.Proofs.Ytmpakjgbbjkacaa.Pure
open Go.RowKit Go.Proofs.Ytmpakjgbbjkacaa.MFnExactWideBody Go.Proofs.YtmpakjgbbjkacaaW.PrintWords Go.Proofs.YtmpakjgbbjkacaaW.PrintLast
theorem evc {α : Type} {g : Nat → Option α} {r : α} (h : ∀ k, g k = some r) : Ev g r := ⟨0, fun k _ => h k⟩
theorem evsucc {α : Type} {g : Nat → Option α} {r : α} (h : Ev (fun k => g (k + 1)) r) : Ev g r := by
  obtain ⟨K, hK⟩ := h
  refine ⟨K + 1, fun k hk => ?_⟩
  obtain ⟨k, rfl⟩ : ∃ m, k = m + 1 := ⟨k - 1, by omega⟩
  exact hK k (by omega)
theorem evp {α : Type} {c : Prop} [Decidable c] {g f : Nat → Option α} {r : α} (hc : c) (h : Ev g r) : Ev (fun k => if c then g k else f k) r := by
  simp only [if_pos hc]; exact h
theorem evn {α : Type} {c : Prop} [Decidable c] {g f : Nat → Option α} {r : α} (hc : ¬ c) (h : Ev f r) : Ev (fun k => if c then g k else f k) r := by
  simp only [if_neg hc]; exact h
theorem evb {α β : Type} {g : Nat → Option α} {f : Nat → α → Option β} {a : α} {r : β} (h : Ev g a) (k : Ev (fun n => f n a) r) : Ev (fun n => (g n).bind (f n)) r := Ev.bind h k
theorem evk {α β : Type} {g : Option α} {f : Nat → α → Option β} {a : α} {r : β} (h : g = some a) (k : Ev (fun n => f n a) r) : Ev (fun n => g.bind (f n)) r := by subst h; exact k
theorem ev_ex {α : Type} {g : Nat → Option α} {r : α} (h : Ev g r) : ∃ k, g k = some r := by obtain ⟨K, hK⟩ := h; exact ⟨K, hK K (Nat.le_refl _)⟩
theorem wsucc {i n : Nat} (h : i < n) (hn : n ≤ 140737488351232) : wrap64 ((i : Int) + 1) = ((i + 1 : Nat) : Int) := by unfold wrap64; omega
theorem rd_at {l : List Int} {i : Nat} (h : i < l.length) : rd l (i : Int) = l[i] := by
  simp [rd, List.getD_eq_getElem?_getD, List.getElem?_eq_getElem h]
theorem drop_at {α : Type} {l : List α} {i : Nat} (h : i < l.length) : l.drop i = l[i] :: l.drop (i + 1) := List.drop_eq_getElem_cons h
theorem take_at {α : Type} {l : List α} {i : Nat} (h : i < l.length) : l.take (i + 1) = l.take i ++ [l[i]] := by
  rw [List.take_succ_eq_append_getElem h]
/-- Every element of a row taken over into a row made ahead. -/
theorem to_rows {α β : Type} (L : Nat → List β → Int → Option (List β)) (conv : α → β) (xs : List α)
    (hs : ∀ (i : Nat) (ys : List β) (h : i < xs.length), ys.length = xs.length → ∀ r, Ev (fun k => L k (ys.set i (conv xs[i])) ((i + 1 : Nat) : Int)) r → Ev (fun k => L k ys (i : Int)) r)
    (he : ∀ ys, Ev (fun k => L k ys (xs.length : Int)) ys) : ∀ (d i : Nat) (ys : List β), i + d = xs.length → ys.length = xs.length → ys.take i = (xs.take i).map conv → Ev (fun k => L k ys (i : Int)) (xs.map conv) := by
  intro d
  induction d with
  | zero =>
    intro i ys h hl ht
    obtain rfl : i = xs.length := by omega
    rw [← hl, List.take_length, hl, List.take_length] at ht
    subst ht
    exact he _
  | succ d ih =>
    intro i ys h hl ht
    have hi : i < xs.length := by omega
    refine hs i ys hi hl _ (ih (i + 1) _ (by omega) (by simpa using hl) ?_)
    rw [take_at (by simp; omega), take_at hi, List.take_set_of_le (by omega), ht, List.map_append]
    simp only [List.getElem_set_self, List.map_cons, List.map_nil]
/-- A loop that asks something of each element, and goes on. -/
theorem on_rows {β : Type} {n : Nat} (L : Nat → Int → Option β) (r : β) (hs : ∀ i : Nat, i < n → Ev (fun k => L k ((i + 1 : Nat) : Int)) r → Ev (fun k => L k (i : Int)) r) (he : Ev (fun k => L k (n : Int)) r) :
    ∀ (d i : Nat), i + d = n → Ev (fun k => L k (i : Int)) r := by
  intro d
  induction d with
  | zero => intro i h; obtain rfl : i = n := by omega
            exact he
  | succ d ih => intro i h; exact hs i (by omega) (ih (i + 1) (by omega))
theorem exb {α β : Type} {g : Nat → Option α} {f : Nat → α → Option β} (h : ∃ a, Ev g a) (k : ∀ a, ∃ r, Ev (fun n => f n a) r) : ∃ r, Ev (fun n => (g n).bind (f n)) r := by
  obtain ⟨a, ha⟩ := h
  obtain ⟨r, hr⟩ := k a
  exact ⟨r, evb ha hr⟩
theorem exk {α β : Type} {g : Option α} {f : Nat → α → Option β} (h : ∃ a, g = some a) (k : ∀ a, ∃ r, Ev (fun n => f n a) r) : ∃ r, Ev (fun n => g.bind (f n)) r := by
  obtain ⟨a, rfl⟩ := h
  exact k a
theorem exi {α : Type} {c : Prop} [Decidable c] {g f : Nat → Option α} (h1 : ∃ r, Ev g r) (h2 : ∃ r, Ev f r) : ∃ r, Ev (fun k => if c then g k else f k) r := by
  by_cases h : c
  · simp only [if_pos h]; exact h1
  · simp only [if_neg h]; exact h2
theorem exp_ {α : Type} {c : Prop} [Decidable c] {g f : Nat → Option α} (h : c) (h1 : ∃ r, Ev g r) : ∃ r, Ev (fun k => if c then g k else f k) r := by
  simp only [if_pos h]; exact h1
theorem exn_ {α : Type} {c : Prop} [Decidable c] {g f : Nat → Option α} (h : ¬ c) (h2 : ∃ r, Ev f r) : ∃ r, Ev (fun k => if c then g k else f k) r := by
  simp only [if_neg h]; exact h2
theorem exc {α : Type} (r : α) : ∃ q : α, Ev (fun _ : Nat => some r) q := ⟨r, evc fun _ => rfl⟩
theorem exs {α : Type} {g : Nat → Option α} (h : ∃ r, Ev (fun k => g (k + 1)) r) : ∃ r, Ev g r := by
  obtain ⟨r, hr⟩ := h
  exact ⟨r, evsucc hr⟩
/-- A loop over a row, whatever it carries, ends. -/
theorem ex_rows {σ β : Type} {n : Nat} (L : Nat → σ → Int → Option β) (hs : ∀ (i : Nat) (s : σ), i < n → (∀ s', ∃ r, Ev (fun k => L k s' ((i + 1 : Nat) : Int)) r) → ∃ r, Ev (fun k => L k s (i : Int)) r) (he : ∀ s, ∃ r, Ev (fun k => L k s (n : Int)) r) :
    ∀ (d i : Nat) (s : σ), i + d = n → ∃ r, Ev (fun k => L k s (i : Int)) r := by
  intro d
  induction d with
  | zero => intro i s h; obtain rfl : i = n := by omega
            exact he s
  | succ d ih => intro i s h; exact hs i s (by omega) (fun s' => ih (i + 1) s' (by omega))
theorem rdStr_at {l : List ByteArray} {i : Nat} (h : i < l.length) : rdOf ByteArray.empty l (i : Int) = l[i] := by
  simp [rdOf, List.getD_eq_getElem?_getD, List.getElem?_eq_getElem h]
theorem exv {α β : Type} {g : Option α} {f : Nat → α → Option β} {a : α} (h : g = some a) (k : ∃ r, Ev (fun n => f n a) r) : ∃ r, Ev (fun n => g.bind (f n)) r := by
  subst h
  exact k
theorem toStrs_ev (l : List ByteArray) (hn : l.length ≤ 17592186044416) : Ev (fun k => laws_toStringS.f k l) l := by
  unfold laws_toStringS.f
  refine evp (by omega) (evp (by omega) ?_)
  have := to_rows (fun k ys i => laws_toStringS.l0 k l ys i) (fun s : ByteArray => s) l (fun i ys h hl r hr => by
    apply evsucc
    simp only [laws_toStringS.l0]
    refine evp (by omega) (evp (by omega) (evp (by omega) ?_))
    rw [wsucc h (by omega), rdStr_at h, Int.toNat_natCast]
    exact hr) (fun ys => by
    apply evsucc
    simp only [laws_toStringS.l0]
    exact evn (by omega) (evc fun _ => rfl)) l.length 0 (List.replicate ((l.length : Int) : Int).toNat (⟨#[]⟩ : ByteArray)) (by omega) (by simp) (by simp)
  simpa using this
theorem eqStrs_ev (l : List ByteArray) (hn : l.length ≤ 17592186044416) : Ev (fun k => laws_eqStringS.f k l l) true := by
  unfold laws_eqStringS.f
  refine evp rfl (on_rows (n := l.length) (fun k i => laws_eqStringS.l0 k l l i) true (fun i h hr => ?_) ?_ l.length 0 (by omega))
  · apply evsucc
    simp only [laws_eqStringS.l0]
    refine evp (by omega) (evp (by omega) (evp (by omega) (evp (by trivial) ?_)))
    rw [wsucc h (by omega)]
    exact hr
  · apply evsucc
    simp only [laws_eqStringS.l0]
    exact evn (by omega) (evc fun _ => rfl)
theorem szStrs_ex (l : List ByteArray) (a : Int) (hn : l.length ≤ 17592186044416) : ∃ r, Ev (fun k => laws_szStringS.f k l a) r := by
  unfold laws_szStringS.f
  refine exi (exc _) (ex_rows (n := l.length) (fun k s i => laws_szStringS.l0 k l s i) (fun i s h hr => exs ?_) (fun s => exs ?_) l.length 0 _ (by omega))
  · simp only [laws_szStringS.l0]
    refine exp_ (by omega) (exp_ (by omega) (exi (exc _) ?_))
    rw [wsucc h (by omega)]
    exact hr _
  · simp only [laws_szStringS.l0]
    exact exn_ (by omega) (exc _)
theorem l00In_eq (a b c : Int) : spec_l00In.f a b c = some (decide (b ≤ a ∧ a ≤ c)) := by
  unfold spec_l00In.f
  by_cases h : a ≥ b
  · have h' : b ≤ a := h
    simp [h, h']
  · have h' : ¬ b ≤ a := h
    simp [h, h']
theorem toWide_ev (K M U Z : Int) (l : List ByteArray) (hn : l.length ≤ 17592186044416) : Ev (fun k => laws_toWide.f k K M U Z l) (K, M, U, Z, l) := by
  unfold laws_toWide.f laws_toCode.f
  simp only [Option.bind_some]
  exact evb (toStrs_ev l hn) (evc fun _ => rfl)
theorem eqWide_ev (K M U Z : Int) (l : List ByteArray) (hn : l.length ≤ 17592186044416) : Ev (fun k => laws_eqWide.f k K M U Z l K M U Z l) true := by
  unfold laws_eqWide.f
  exact evk (a := true) (by simp [laws_eqCode.f]) (evp rfl (evp rfl (evp rfl (evb (eqStrs_ev l hn) (evp rfl (evc fun _ => rfl))))))
theorem szWide_ex (K M U Z : Int) (l : List ByteArray) (a : Int) (hn : l.length ≤ 17592186044416) : ∃ r, Ev (fun k => laws_szWide.f k K M U Z l a) r := by
  unfold laws_szWide.f
  exact exb (szStrs_ex l a hn) (fun _ => exi (exc _) (exc _))
theorem tallS (K M U Z : Int) (l : List ByteArray) : spec_l05Tall.f K M U Z = impl_Wide_length.f K M U Z l := rfl
theorem ok_loop (K M U Z T : Int) (l : List ByteArray) (hn : l.length ≤ 17592186044416) (hT : spec_l05Tall.f K M U Z = some T) : ∀ (d i : Nat), i + d = l.length → Ev (fun k => spec_l05OK.l0 k (i : Int) K M U Z l) (!(l.drop i).any fun c => !((c.size : Int) == T)) := by
  intro d
  induction d with
  | zero =>
    intro i h
    apply evsucc
    simp only [spec_l05OK.l0]
    refine evn (by omega) (evc fun _ => ?_)
    rw [List.drop_of_length_le (by omega)]
    rfl
  | succ d ih =>
    intro i h
    have hi : i < l.length := by omega
    apply evsucc
    simp only [spec_l05OK.l0]
    refine evp (by omega) (evp (by omega) (evk hT ?_))
    rw [wsucc hi (by omega), rdStr_at hi, drop_at hi, List.any_cons]
    by_cases h1 : (l[i].size : Int) = T
    · refine evp h1 ?_
      have e : (!((l[i].size : Int) == T)) = false := by simp [h1]
      rw [e, Bool.false_or]
      exact ih (i + 1) (by omega)
    · refine evn h1 (evc fun _ => ?_)
      have e : (!((l[i].size : Int) == T)) = true := by simp [h1]
      rw [e]
      rfl
/-- What a right striped object is. -/
def RightW (K M U Z : Int) (l : List ByteArray) : Prop := (1 ≤ K ∧ K ≤ 4) ∧ (0 ≤ M ∧ M ≤ 3) ∧ (1 ≤ U ∧ U ≤ 8) ∧ (0 ≤ Z ∧ Z ≤ 256) ∧ (l.length : Int) = K + M ∧ ∀ c ∈ l, (c.size : Int) = impl_WideOk.tall K U Z
theorem wideOk_same (K M U Z : Int) (l : List ByteArray) (hn : l.length ≤ 17592186044416) : ∃ v : Bool, Ev (fun k => spec_l05OK.f k K M U Z l) v ∧ impl_WideOk.f K M U Z l = some v ∧ (v = true → RightW K M U Z l) := by
  have hj : ∀ b : Bool, b = true → Ev (fun k => spec_l05OK.j0 k b K M U Z l) false := fun b hb => by
    subst hb
    apply evsucc
    simp only [spec_l05OK.j0]
    exact evp (by trivial) (evc fun _ => rfl)
  unfold spec_l05OK.f spec_l04Code.f impl_WideOk.f impl_WideOk.code
  simp only [l00In_eq, Option.bind_some]
  by_cases h1 : 1 ≤ K ∧ K ≤ 4
  · by_cases h2 : 0 ≤ M ∧ M ≤ 3
    · by_cases h3 : 1 ≤ U ∧ U ≤ 8
      · by_cases h4 : 0 ≤ Z ∧ Z ≤ 256
        · have hw : wrap64 (K + M) = K + M := by unfold wrap64; omega
          have hT : spec_l05Tall.f K M U Z = some (impl_WideOk.tall K U Z) := by rw [tallS K M U Z l]; exact impl_WideOk.lenEq K M U Z l h1 h3 h4
          simp only [decide_eq_true h1, decide_eq_true h2, decide_eq_true h3, decide_eq_true h4, if_true, Option.bind_some, Bool.true_and, hw]
          by_cases h5 : (l.length : Int) = K + M
          · refine ⟨!l.any fun c => !((c.size : Int) == impl_WideOk.tall K U Z), evsucc ?_, by simp [h5], fun hv => ⟨h1, h2, h3, h4, h5, fun c hc => ?_⟩⟩
            · simp only [spec_l05OK.j0]
              refine evn (by simp [h5]) ?_
              have := ok_loop K M U Z _ l hn hT l.length 0 (by omega)
              simpa using this
            · have : (l.any fun c => !((c.size : Int) == impl_WideOk.tall K U Z)) = false := by simpa using hv
              rw [List.any_eq_false] at this
              simpa using this c hc
          · exact ⟨false, hj _ (by simp [h5]), by simp [h5], by simp⟩
        · refine ⟨false, ?_, by simp [h1, h2, h3, h4], by simp⟩
          simp only [decide_eq_true h1, decide_eq_true h2, decide_eq_true h3, decide_eq_false h4, if_true, Option.bind_some, Bool.false_eq_true, if_false]
          exact hj true rfl
      · refine ⟨false, ?_, by simp [h1, h2, h3], by simp⟩
        simp only [decide_eq_true h1, decide_eq_true h2, decide_eq_false h3, if_true, Option.bind_some, Bool.false_eq_true, if_false]
        exact hj true rfl
    · refine ⟨false, ?_, by simp [h1, h2], by simp⟩
      simp only [decide_eq_true h1, decide_eq_false h2, if_true, Option.bind_some, Bool.false_eq_true, if_false]
      exact hj true rfl
  · refine ⟨false, ?_, by simp [h1], by simp⟩
    simp only [decide_eq_false h1, Option.bind_some, Bool.false_eq_true, if_false]
    exact hj true rfl
theorem w64s (x : Nat) (h : x ≤ 100000) : wrap64 (x : Int) = (x : Int) := by unfold wrap64; omega
theorem tmN (a b : Nat) : Int.tmod (a : Int) (b : Int) = ((a % b : Nat) : Int) := by rw [Int.tmod_eq_emod_of_nonneg (Int.natCast_nonneg a)]; rfl
theorem tdN (a b : Nat) : Int.tdiv (a : Int) (b : Int) = ((a / b : Nat) : Int) := by rw [Int.tdiv_eq_ediv_of_nonneg (Int.natCast_nonneg a)]; rfl
theorem cell_arith (S U p : Nat) (hS : 1 ≤ S ∧ S ≤ 32) (hU : 1 ≤ U ∧ U ≤ 8) (hp : p ≤ 1000) : p % S / U ≤ 100000 ∧ p / S ≤ 100000 ∧ p / S * U ≤ 100000 ∧ p / S * U + p % U ≤ 100000 := by
  have q1 : p % S / U ≤ p % S := Nat.div_le_self _ _
  have q2 : p % S < S := Nat.mod_lt _ (by omega)
  have q3 : p / S ≤ p := Nat.div_le_self _ _
  have q4 : p / S * U ≤ 1000 * 8 := Nat.mul_le_mul (Nat.le_trans q3 hp) hU.2
  have q5 : p % U < U := Nat.mod_lt _ (by omega)
  generalize p / S * U = z at q4
  generalize p % S / U = y at q1
  omega
theorem cell_nat (K U p : Nat) (M Z : Int) (l : List ByteArray) (hK : 1 ≤ K ∧ K ≤ 4) (hU : 1 ≤ U ∧ U ≤ 8) (hp : p ≤ 1000) :
    impl_Wide_cell.f (K : Int) M (U : Int) Z l (p : Int) = some (((p % (K * U) / U : Nat) : Int), ((p / (K * U) * U + p % U : Nat) : Int)) ∧ spec_l05Cell.f (K : Int) M (U : Int) Z l (p : Int) = some (((p % (K * U) / U : Nat) : Int), ((p / (K * U) * U + p % U : Nat) : Int)) := by
  have hS : 1 ≤ K * U ∧ K * U ≤ 32 := ⟨Nat.mul_pos hK.1 hU.1, Nat.mul_le_mul hK.2 hU.2⟩
  have hm : p % (K * U) % U = p % U := Nat.mod_mul_left_mod p K U
  have e0 : wrap64 ((K : Int) * (U : Int)) = ((K * U : Nat) : Int) := by rw [← Int.natCast_mul]; exact w64s _ (Nat.le_trans hS.2 (by decide))
  unfold impl_Wide_cell.f spec_l05Cell.f impl_Wide_stripe.f
  simp only [Option.bind_some, e0]
  generalize K * U = S at hS hm
  have ar := cell_arith S U p hS hU hp
  have hS0 : ¬ ((S : Int) = 0) := by omega
  have hU0 : ¬ ((U : Int) = 0) := by omega
  have w1 := w64s _ ar.1
  have w2 := w64s _ ar.2.1
  have w3 : wrap64 (((p / S : Nat) : Int) * (U : Int)) = ((p / S * U : Nat) : Int) := by rw [← Int.natCast_mul]; exact w64s _ ar.2.2.1
  have w4 : wrap64 (((p / S * U : Nat) : Int) + ((p % U : Nat) : Int)) = ((p / S * U + p % U : Nat) : Int) := by rw [← Int.natCast_add]; exact w64s _ ar.2.2.2
  rw [if_neg hS0, if_neg hU0, if_neg hS0, if_neg hS0, if_neg hU0]
  rw [tmN p S, tdN (p % S) U, tdN p S, tmN p U, tmN (p % S) U, hm, w1, w2, w3, w4]
  exact ⟨rfl, rfl⟩
/-- Where a byte of the body lies is in the columns. -/
theorem cell_in (K U Z p : Nat) (hK : 1 ≤ K) (hU : 1 ≤ U) (hp : p < Z) : p % (K * U) / U < K ∧ p / (K * U) * U + p % U < (Z + K * U - 1) / (K * U) * U := by
  have hS : 1 ≤ K * U := Nat.mul_pos hK hU
  refine ⟨Nat.div_lt_of_lt_mul (by rw [Nat.mul_comm U K]; exact Nat.mod_lt _ hS), ?_⟩
  generalize K * U = S at hS
  have h1 : p / S + 1 ≤ (Z + S - 1) / S := by
    rw [← Nat.add_div_right p hS]
    exact Nat.div_le_div_right (by omega)
  have h2 : p % U < U := Nat.mod_lt _ hU
  have h3 : (p / S + 1) * U ≤ (Z + S - 1) / S * U := Nat.mul_le_mul_right _ h1
  rw [Nat.add_mul, Nat.one_mul] at h3
  omega
theorem strOf_bytes (L : List UInt8) : strOfNums (L.map fun b => (b.toNat : Int)) = ⟨L.toArray⟩ := by
  unfold strOfNums
  congr 1
  simp [Function.comp_def]
theorem bt_getD (s : ByteArray) (i : Nat) (h : i < s.size) : bt s (i : Int) = ((s.data.toList.getD i 0).toNat : Int) := by
  have h' : i < s.data.toList.length := by simpa using h
  have e1 : s.data.toList.getD i 0 = s.data.toList[i] := by simp only [List.getD, List.getElem?_eq_getElem h', Option.getD_some]
  unfold bt
  rw [dif_pos (by simpa using h), e1, Array.getElem_toList]
  rfl
theorem read_loop (K U Z : Nat) (M : Int) (l : List ByteArray) (hK : 1 ≤ K ∧ K ≤ 4) (hU : 1 ≤ U ∧ U ≤ 8) (hZ : Z ≤ 256) (hM : 0 ≤ M) (hl : (l.length : Int) = (K : Int) + M) (hc : ∀ c ∈ l, (c.size : Int) = impl_WideOk.tall (K : Int) (U : Int) (Z : Int)) (a N : Nat) (haN : a + N ≤ Z) :
    ∀ (n p : Nat) (xs : List Int), p + n = a + N → xs.length + n ≤ 1000 → ∃ L : List UInt8, impl_Wide_body.bytes (K : Int) M (U : Int) (Z : Int) l l n p = some L ∧ Ev (fun k => spec_l05Read.l0 k (a : Int) (N : Int) xs (p : Int) (K : Int) M (U : Int) (Z : Int) l) (strOfNums (xs ++ L.map fun b => (b.toNat : Int))) := by
  have hw : wrap64 ((a : Int) + (N : Int)) = (a : Int) + (N : Int) := by unfold wrap64; omega
  intro n
  induction n with
  | zero =>
    intro p xs h hx
    refine ⟨[], rfl, evsucc ?_⟩
    simp only [spec_l05Read.l0, hw]
    exact evn (by omega) (evc fun _ => by simp)
  | succ n ih =>
    intro p xs h hx
    obtain ⟨c1, c2⟩ := cell_nat K U p M (Z : Int) l hK hU (by omega)
    obtain ⟨g1, g2⟩ := cell_in K U Z p hK.1 hU.1 (by omega)
    have hS : 1 ≤ K * U := Nat.mul_pos hK.1 hU.1
    have htall : impl_WideOk.tall (K : Int) (U : Int) (Z : Int) = (((Z + K * U - 1) / (K * U) * U : Nat) : Int) := by
      unfold impl_WideOk.tall
      rw [← Int.natCast_mul, show (Z : Int) + ((K * U : Nat) : Int) - 1 = ((Z + K * U - 1 : Nat) : Int) from by omega, ← Int.natCast_ediv, ← Int.natCast_mul]
    generalize hco1 : p % (K * U) / U = co1 at c1 c2 g1
    generalize p / (K * U) * U + p % U = co2 at c1 c2 g2
    have h1 : co1 < l.length := by omega
    have hsz := hc l[co1] (List.getElem_mem h1)
    rw [htall] at hsz
    have hco : co2 < l[co1].size := by omega
    obtain ⟨L, hL, hE⟩ := ih (p + 1) (xs ++ [((l[co1].data.toList.getD co2 0).toNat : Int)]) (by omega) (by simp; omega)
    refine ⟨l[co1].data.toList.getD co2 0 :: L, ?_, evsucc ?_⟩
    · simp only [impl_Wide_body.bytes, c1, Option.bind_some]
      rw [rdStr_at h1, if_pos ⟨by omega, by omega, by omega, by omega⟩, hL, Int.toNat_natCast]
      rfl
    · simp only [spec_l05Read.l0, hw]
      refine evp (by omega) (evk c2 (evp (by omega) (evp (by simp only; omega) (evp (by omega) (evp (by simp only; rw [rdStr_at h1]; omega) (evp (by omega) ?_))))))
      simp only
      rw [rdStr_at h1, bt_getD _ _ hco, show wrap64 ((p : Int) + 1) = ((p + 1 : Nat) : Int) from by unfold wrap64; omega]
      simpa using hE
theorem read_same (K M U Z : Int) (l : List ByteArray) (h : RightW K M U Z l) (a n : Int) (ha : 0 ≤ a) (hn : 0 ≤ n) (hz : a + n ≤ Z) : ∃ r, Ev (fun k => spec_l05Read.f k K M U Z l a n) r ∧ impl_Wide_body.f K M U Z l l a n = some r := by
  obtain ⟨hK, hM, hU, hZ, hl, hc⟩ := h
  obtain ⟨K, rfl⟩ := Int.eq_ofNat_of_zero_le (show 0 ≤ K by omega)
  obtain ⟨U, rfl⟩ := Int.eq_ofNat_of_zero_le (show 0 ≤ U by omega)
  obtain ⟨Z, rfl⟩ := Int.eq_ofNat_of_zero_le hZ.1
  obtain ⟨a, rfl⟩ := Int.eq_ofNat_of_zero_le ha
  obtain ⟨n, rfl⟩ := Int.eq_ofNat_of_zero_le hn
  obtain ⟨L, h1, h2⟩ := read_loop K U Z M l ⟨by omega, by omega⟩ ⟨by omega, by omega⟩ (by omega) hM.1 hl hc a n (by omega) n a [] rfl (by simp; omega)
  refine ⟨⟨L.toArray⟩, ?_, ?_⟩
  · rw [List.nil_append, strOf_bytes] at h2
    exact h2
  · unfold impl_Wide_body.f
    rw [if_pos ⟨by omega, by omega, by omega⟩, Int.toNat_natCast, Int.toNat_natCast, h1]
    rfl
theorem FnExactWideBody : Stmt.FnExactWideBody.PureS := by
  intro K M U Z l _ _ _ _ ⟨_, hl, _⟩
  have hn : l.length ≤ 17592186044416 := by omega
  have ht := toWide_ev K M U Z l hn
  have he := eqWide_ev K M U Z l hn
  obtain ⟨z, hz⟩ := szWide_ex K M U Z l 1048576 hn
  obtain ⟨v, h1, h2, h3⟩ := wideOk_same K M U Z l hn
  have key : ∃ r : ByteArray × Int, Ev (fun k => spec_WideBody.f k K M U Z l) r ∧ impl_WideBody.f K M U Z l = some r := by
    unfold spec_WideBody.f impl_WideBody.f
    cases v with
    | false => exact ⟨_, evb h1 (evn (by simp) (evc fun _ => rfl)), by rw [h2]; rfl⟩
    | true =>
      have hr := h3 rfl
      obtain ⟨q, q1, q2⟩ := read_same K M U Z l hr 0 Z (by omega) hr.2.2.2.1.1 (by omega)
      refine ⟨(q, 0), evb h1 (evp rfl (evb q1 (evc fun _ => rfl))), ?_⟩
      rw [h2]
      simp only [Option.bind_some, if_true, q2]
  obtain ⟨r, r1, r2⟩ := key
  apply ev_ex
  unfold laws_FnExactWideBody.f
  refine evb hz ?_
  by_cases h0 : z < 0
  · exact evp h0 (evc fun _ => rfl)
  · refine evn h0 (evb ht (evb r1 (evb ht (evk r2 (evp rfl (evsucc ?_))))))
    simp only [laws_FnExactWideBody.j0]
    exact evn (by simp) (evb ht (evb he (evp (by trivial) (evc fun _ => rfl))))
end Go.Proofs.Ytmpakjgbbjkacaa.Pure
