/- Reading changes nothing, a full write twice is one, appending is writing at the end, what is deleted is not there: over the drawn operation. The input: any two lists of bytes within the reach. -/
import Derived.Test.YthphhklbliambaaStmtFnOpSame
import Derived.Lib.Strings
set_option linter.unusedSimpArgs false
set_option linter.unusedVariables false
namespace Go.Proofs.Ythphhklbliambaa.Pure
open Go.RowKit Go.Proofs.Ythphhklbliambaa.MFnOpSame Go.Proofs.YthphhklbliambaaW.PrintWords Go.Proofs.YthphhklbliambaaW.PrintLast
theorem evc {α : Type} {g : Nat → Option α} {r : α} (h : ∀ k, g k = some r) : Ev g r := ⟨0, fun k _ => h k⟩
theorem evsucc {α : Type} {g : Nat → Option α} {r : α} (h : Ev (fun k => g (k + 1)) r) : Ev g r := by
  obtain ⟨K, hK⟩ := h
  refine ⟨K + 1, fun k hk => ?_⟩
  obtain ⟨k, rfl⟩ : ∃ m, k = m + 1 := ⟨k - 1, by omega⟩
  exact hK k (by omega)
theorem evp {α : Type} {c : Prop} [Decidable c] {g f : Nat → Option α} {r : α} (hc : c) (h : Ev g r) : Ev (fun k => if c then g k else f k) r := by
  simp only [if_pos hc]; exact h
theorem evn {α : Type} {c : Prop} [Decidable c] {g f : Nat → Option α} {r : α} (hc : ¬ c) (h : Ev f r) : Ev (fun k => if c then g k else f k) r := by
  simp only [if_neg hc]; exact h
theorem evb {α β : Type} {g : Nat → Option α} {f : Nat → α → Option β} {a : α} {r : β} (h : Ev g a) (k : Ev (fun n => f n a) r) : Ev (fun n => (g n).bind (f n)) r := Ev.bind h k
theorem evk {α β : Type} {g : Option α} {f : Nat → α → Option β} {a : α} {r : β} (h : g = some a) (k : Ev (fun n => f n a) r) : Ev (fun n => g.bind (f n)) r := by subst h; exact k
theorem ev_ex {α : Type} {g : Nat → Option α} {r : α} (h : Ev g r) : ∃ k, g k = some r := by obtain ⟨K, hK⟩ := h; exact ⟨K, hK K (Nat.le_refl _)⟩
theorem wsucc {i n : Nat} (h : i < n) (hn : n ≤ 140737488351232) : wrap64 ((i : Int) + 1) = ((i + 1 : Nat) : Int) := by unfold wrap64; omega
theorem rd_at {l : List Int} {i : Nat} (h : i < l.length) : rd l (i : Int) = l[i] := by
  simp [rd, List.getD_eq_getElem?_getD, List.getElem?_eq_getElem h]
theorem drop_at {α : Type} {l : List α} {i : Nat} (h : i < l.length) : l.drop i = l[i] :: l.drop (i + 1) := List.drop_eq_getElem_cons h
theorem take_at {α : Type} {l : List α} {i : Nat} (h : i < l.length) : l.take (i + 1) = l.take i ++ [l[i]] := by
  rw [List.take_succ_eq_append_getElem h]
theorem between_eq (a b c : Int) : impl_between.f a b c = some (decide (b ≤ a ∧ a ≤ c)) := by
  unfold impl_between.f
  by_cases h : a ≥ b
  · have h' : b ≤ a := h
    simp [h, h']
  · have h' : ¬ b ≤ a := h
    simp [h, h']
def codeB (a b : Int) : Bool := decide (1 ≤ a ∧ a ≤ 4) && decide (0 ≤ b ∧ b ≤ 3)
theorem codeOk_impl (a b : Int) : impl_CodeOk.f a b = some (codeB a b) := by
  unfold impl_CodeOk.f codeB
  simp only [between_eq, Option.bind_some]
  by_cases h : 1 ≤ a ∧ a ≤ 4 <;> simp [h]
theorem and255 (E : Int) (h0 : 0 ≤ E) (h1 : E ≤ 18446744073709551615) : 0 ≤ Go.bits .and .u64 E 255 ∧ Go.bits .and .u64 E 255 ≤ 255 := by
  have h := Go.bits_and_u64_nat E.toNat 255 (by omega) (by omega)
  rw [Int.toNat_of_nonneg h0] at h
  have h2 : E.toNat &&& 255 ≤ 255 := Nat.and_le_right
  have h3 : Go.bits .and .u64 E 255 = ((E.toNat &&& 255 : Nat) : Int) := h
  rw [h3]; omega
theorem w255 (E : Int) : 0 ≤ wrap64 (Go.bits .and .u64 (Go.IntKind.u64.wrap E / 1099511627776) 255) ∧ wrap64 (Go.bits .and .u64 (Go.IntKind.u64.wrap E / 1099511627776) 255) ≤ 255 := by
  have h0 : 0 ≤ Go.IntKind.u64.wrap E ∧ Go.IntKind.u64.wrap E ≤ 18446744073709551615 := by rw [Go.IntKind.wrap_u64]; omega
  have := and255 (Go.IntKind.u64.wrap E / 1099511627776) (by omega) (by omega)
  generalize Go.bits .and .u64 (Go.IntKind.u64.wrap E / 1099511627776) 255 = b at this ⊢
  unfold wrap64; omega
def Bytes (l : List Int) : Prop := ∀ x ∈ l, 0 ≤ x ∧ x ≤ 255
theorem next_ok {l : List Int} (hb : Bytes l) (p c : Int) (h0 : 0 ≤ p) (h1 : p ≤ 1000) : ∃ a d, spec_l00Src_next.f l p c = some (a, p + 1, d) ∧ 0 ≤ a ∧ a ≤ 255 := by
  unfold spec_l00Src_next.f
  have e : wrap64 (p + 1) = p + 1 := by unfold wrap64; omega
  rw [e]
  by_cases h : p < (l.length : Int)
  · obtain ⟨i, rfl⟩ : ∃ i : Nat, p = (i : Int) := ⟨p.toNat, by omega⟩
    have hi : i < l.length := by omega
    rw [if_pos h, if_pos h0, if_pos (by omega), rd_at hi]
    have := hb l[i] (List.getElem_mem hi)
    exact ⟨_, _, rfl, by unfold wrap64; omega, by unfold wrap64; omega⟩
  · rw [if_neg h, if_neg (by omega)]
    exact ⟨_, _, rfl, w255 _⟩
theorem pick_ok {l : List Int} (hb : Bytes l) (p c n : Int) (h0 : 0 ≤ p) (h1 : p ≤ 1000) (hn : n ≤ 200) :
    ∃ a q d, spec_l00Src_pick.f l p c n = some (a, q, d) ∧ 0 ≤ a ∧ (a = 0 ∨ a < n) ∧ p ≤ q ∧ q ≤ p + 1 := by
  unfold spec_l00Src_pick.f
  by_cases g : n ≤ 1
  · exact ⟨0, p, c, by rw [if_pos g], by omega, by omega, by omega, by omega⟩
  · obtain ⟨a, d, h, ha, ha2⟩ := next_ok hb p c h0 h1
    rw [if_neg g, h]
    simp only [Option.bind_some]
    rw [if_neg (by omega), if_neg (by omega)]
    exact ⟨_, _, _, rfl, Int.tmod_nonneg _ ha, Or.inr (Int.tmod_lt_of_pos _ (by omega)), by omega, by omega⟩
theorem among_ok {l : List Int} (hb : Bytes l) (p c : Int) (row : List Int) (h0 : 0 ≤ p) (h1 : p ≤ 1000) (hr : row.length ≤ 200) (hr0 : 0 < row.length) :
    ∃ a q d, spec_l00Src_among.f l p c row = some (a, q, d) ∧ a ∈ row ∧ p ≤ q ∧ q ≤ p + 1 := by
  obtain ⟨a, q, d, h, ha, hl, hq⟩ := pick_ok hb p c row.length h0 h1 (by omega)
  unfold spec_l00Src_among.f
  rw [h]; simp only [Option.bind_some]
  obtain ⟨i, rfl⟩ : ∃ i : Nat, a = (i : Int) := ⟨a.toNat, by omega⟩
  have hi : i < row.length := by omega
  rw [if_pos ha, if_pos (by omega), rd_at hi]
  exact ⟨_, _, _, rfl, List.getElem_mem hi, hq.1, hq.2⟩
theorem one_ok {l : List Int} (hb : Bytes l) (p c n : Int) (h0 : 0 ≤ p) (h1 : p ≤ 1000) (hn : n ≤ 200) :
    ∃ b q d, spec_l00Src_one.f l p c n = some (b, q, d) ∧ p ≤ q ∧ q ≤ p + 1 := by
  obtain ⟨a, q, d, h, _, _, hq⟩ := pick_ok hb p c n h0 h1 hn
  unfold spec_l00Src_one.f
  rw [h]
  exact ⟨_, _, _, rfl, hq.1, hq.2⟩
theorem word_ok {l : List Int} (hb : Bytes l) (p c n : Int) (h0 : 0 ≤ p) (h1 : p ≤ 800) (hn : n ≤ 100) : ∃ s q d, Ev (fun k => spec_l00Src_word.f k l p c n) (s, q, d) ∧ p ≤ q ∧ q ≤ p + 101 := by
  obtain ⟨a, q, d, h, ha, hl, hq1, hq2⟩ := pick_ok hb p c n h0 (by omega) (by omega)
  have loop : ∀ (m : Nat) (xs : List Int) (q d : Int), 0 ≤ q → q + m ≤ 1000 → xs.length + m ≤ 1000 → ∃ s q' d', Ev (fun k => spec_l00Src_word.l0 k xs (m : Int) l q d) (s, q', d') ∧ q ≤ q' ∧ q' ≤ q + m := by
    intro m
    induction m with
    | zero =>
      intro xs q d g0 g1 g2
      refine ⟨strOfNums xs, q, d, evsucc ?_, by omega, by omega⟩
      simp only [spec_l00Src_word.l0]
      exact evn (by omega) (evc fun _ => rfl)
    | succ m ih =>
      intro xs q d g0 g1 g2
      obtain ⟨b, e, hn, _, _⟩ := next_ok hb q d g0 (by omega)
      obtain ⟨s, q', d', hs, e1, e2⟩ := ih (xs ++ [b % 256]) (q + 1) e (by omega) (by omega) (by simp; omega)
      refine ⟨s, q', d', evsucc ?_, by omega, by omega⟩
      simp only [spec_l00Src_word.l0]
      refine evp (by omega) (evk hn (evp (by omega) ?_))
      rw [show wrap64 (((m + 1 : Nat) : Int) - 1) = (m : Int) from by unfold wrap64; omega]
      exact hs
  obtain ⟨m, rfl⟩ := Int.eq_ofNat_of_zero_le ha
  obtain ⟨s, q', d', hs, e1, e2⟩ := loop m [] q d (by omega) (by omega) (by simp; omega)
  unfold spec_l00Src_word.f
  exact ⟨s, q', d', evk h hs, by omega, by omega⟩
theorem bytes_ok {l : List Int} (hb : Bytes l) (p c : Int) (h0 : 0 ≤ p) (h1 : p ≤ 700) : ∃ s q d, Ev (fun k => spec_l16Bytes.f k l p c) (s, q, d) ∧ p ≤ q ∧ q ≤ p + 110 := by
  obtain ⟨b, q, d, ho, hq1, hq2⟩ := one_ok hb p c 12 h0 (by omega) (by omega)
  unfold spec_l16Bytes.f
  cases b with
  | true =>
    obtain ⟨a, q2, d2, h, ha, hl, hq3, hq4⟩ := pick_ok hb q d 3 (by omega) (by omega) (by omega)
    have e : wrap64 (63 + a) = 63 + a := by unfold wrap64; omega
    refine ⟨strOfNums (List.replicate (wrap64 (63 + a)).toNat 0), q2, d2, evk ho (evp rfl (evk h (evp (by rw [e]; omega) (evp (by rw [e]; omega) (evc fun _ => rfl))))), by omega, by omega⟩
  | false =>
    obtain ⟨s, q2, d2, hs, hq3, hq4⟩ := word_ok hb q d 9 (by omega) (by omega) (by omega)
    exact ⟨s, q2, d2, evk ho (evn (by simp) (evb hs (evc fun _ => rfl))), by omega, by omega⟩
theorem op5_ok {l : List Int} (hb : Bytes l) (p c x y : Int) (s : ByteArray) (h0 : 0 ≤ p) (h1 : p ≤ 700) : ∃ x' y' s' q d, Ev (fun k => spec_l16Op.j5 k l p c x y s) (x', y', s', q, d) ∧ p ≤ q ∧ q ≤ p + 2 := by
  obtain ⟨a, q, d, h, ha, hl, hq1, hq2⟩ := pick_ok hb p c 30 h0 (by omega) (by omega)
  by_cases a0 : a = 0
  · obtain ⟨a', q2, d2, h', _, _, hq3, hq4⟩ := pick_ok hb q d 3 (by omega) (by omega) (by omega)
    refine ⟨x, wrap64 ((wrap64 (y + 1)) - a'), s, q2, d2, evsucc ?_, by omega, by omega⟩
    simp only [spec_l16Op.j5]
    exact evk h (evp a0 (evk h' (evc fun _ => rfl)))
  · by_cases a1 : a = 1
    · obtain ⟨a', q2, d2, h', _, _, hq3, hq4⟩ := pick_ok hb q d 9 (by omega) (by omega) (by omega)
      refine ⟨wrap64 (a' - 1), y, s, q2, d2, evsucc ?_, by omega, by omega⟩
      simp only [spec_l16Op.j5]
      exact evk h (evn a0 (evp a1 (evk h' (evc fun _ => rfl))))
    · by_cases a2 : a = 2
      · refine ⟨x, y, (⟨#[120]⟩ : ByteArray), q, d, evsucc ?_, by omega, by omega⟩
        simp only [spec_l16Op.j5]
        exact evk h (evn a0 (evn a1 (evp a2 (evc fun _ => rfl))))
      · refine ⟨x, y, s, q, d, evsucc ?_, by omega, by omega⟩
        simp only [spec_l16Op.j5]
        exact evk h (evn a0 (evn a1 (evn a2 (evc fun _ => rfl))))
theorem op4_ok {l : List Int} (hb : Bytes l) (g : Bool) (p c x y : Int) (s : ByteArray) (h0 : 0 ≤ p) (h1 : p ≤ 500) : ∃ x' y' s' q d, Ev (fun k => spec_l16Op.j4 k g l p c x y s) (x', y', s', q, d) ∧ p ≤ q ∧ q ≤ p + 120 := by
  cases g with
  | true =>
    obtain ⟨t, q, d, ht, e1, e2⟩ := bytes_ok hb p c h0 (by omega)
    obtain ⟨x', y', s', q', d', h5, e3, e4⟩ := op5_ok hb q d x y t (by omega) (by omega)
    refine ⟨x', y', s', q', d', evsucc ?_, by omega, by omega⟩
    simp only [spec_l16Op.j4]
    exact evp (by trivial) (evb ht h5)
  | false =>
    obtain ⟨x', y', s', q', d', h5, e3, e4⟩ := op5_ok hb p c x y s (by omega) (by omega)
    refine ⟨x', y', s', q', d', evsucc ?_, by omega, by omega⟩
    simp only [spec_l16Op.j4]
    exact evn (by simp) h5
theorem op3_ok {l : List Int} (hb : Bytes l) (z p c x y : Int) (s : ByteArray) (h0 : 0 ≤ p) (h1 : p ≤ 500) : ∃ x' y' s' q d, Ev (fun k => spec_l16Op.j3 k z l p c x y s) (x', y', s', q, d) ∧ p ≤ q ∧ q ≤ p + 120 := by
  have key : ∀ g, ∃ x' y' s' q d, Ev (fun k => spec_l16Op.j4 k g l p c x y s) (x', y', s', q, d) ∧ p ≤ q ∧ q ≤ p + 120 := fun g => op4_ok hb g p c x y s h0 h1
  by_cases z2 : z = 2
  · obtain ⟨x', y', s', q, d, h, e⟩ := key true
    refine ⟨x', y', s', q, d, evsucc ?_, e⟩
    simp only [spec_l16Op.j3]
    exact evp z2 h
  · by_cases z3 : z = 3
    · obtain ⟨x', y', s', q, d, h, e⟩ := key true
      refine ⟨x', y', s', q, d, evsucc ?_, e⟩
      simp only [spec_l16Op.j3]
      exact evn z2 (evp z3 h)
    · obtain ⟨x', y', s', q, d, h, e⟩ := key (z == 4)
      refine ⟨x', y', s', q, d, evsucc ?_, e⟩
      simp only [spec_l16Op.j3]
      exact evn z2 (evn z3 h)
theorem op2_ok {l : List Int} (hb : Bytes l) (z : Int) (g : Bool) (p c x y : Int) (s : ByteArray) (h0 : 0 ≤ p) (h1 : p ≤ 400) : ∃ x' y' s' q d, Ev (fun k => spec_l16Op.j2 k z g l p c x y s) (x', y', s', q, d) ∧ p ≤ q ∧ q ≤ p + 130 := by
  cases g with
  | true =>
    obtain ⟨a, q1, d1, g1, _, _, e1, e2⟩ := pick_ok hb p c 12 h0 (by omega) (by omega)
    obtain ⟨b, q2, d2, g2, e3, e4⟩ := one_ok hb q1 d1 8 (by omega) (by omega) (by omega)
    cases b with
    | true =>
      obtain ⟨a3, q3, d3, g3, _, _, e5, e6⟩ := pick_ok hb q2 d2 3 (by omega) (by omega) (by omega)
      obtain ⟨x', y', s', q', d', h, e7, e8⟩ := op3_ok hb z q3 d3 x (wrap64 (63 + a3)) s (by omega) (by omega)
      refine ⟨x', y', s', q', d', evsucc ?_, by omega, by omega⟩
      simp only [spec_l16Op.j2]
      exact evp (by trivial) (evk g1 (evk g2 (evp (by trivial) (evk g3 h))))
    | false =>
      obtain ⟨x', y', s', q', d', h, e7, e8⟩ := op3_ok hb z q2 d2 x a s (by omega) (by omega)
      refine ⟨x', y', s', q', d', evsucc ?_, by omega, by omega⟩
      simp only [spec_l16Op.j2]
      exact evp (by trivial) (evk g1 (evk g2 (evn (by simp) h)))
  | false =>
    obtain ⟨x', y', s', q', d', h, e7, e8⟩ := op3_ok hb z p c x y s (by omega) (by omega)
    refine ⟨x', y', s', q', d', evsucc ?_, by omega, by omega⟩
    simp only [spec_l16Op.j2]
    exact evn (by simp) h
theorem op_ok {l : List Int} (hb : Bytes l) (p c : Int) (h0 : 0 ≤ p) (h1 : p ≤ 300) : ∃ x' y' s' q d, Ev (fun k => spec_l16Op.f k l p c 1 0) (x', y', s', q, d) ∧ p ≤ q ∧ q ≤ p + 140 := by
  obtain ⟨z, q, d, hz, _, e1, e2⟩ := among_ok hb p c [1, 2, 3, 4, 5, 6, 2, 4] h0 (by omega) (by decide) (by decide)
  have key : ∀ g, ∃ x' y' s' q' d', Ev (fun k => spec_l16Op.j2 k z g l q d z 0 (⟨#[]⟩ : ByteArray)) (x', y', s', q', d') ∧ q ≤ q' ∧ q' ≤ q + 130 := fun g => op2_ok hb z g q d z 0 _ (by omega) (by omega)
  unfold spec_l16Op.f
  by_cases z3 : z = 3
  · obtain ⟨x', y', s', q', d', h, e3, e4⟩ := key true
    refine ⟨x', y', s', q', d', evk hz (evn (by omega) (evsucc ?_)), by omega, by omega⟩
    simp only [spec_l16Op.j0]
    refine evn (by simp) (evsucc ?_)
    simp only [spec_l16Op.j1]
    exact evp z3 h
  · obtain ⟨x', y', s', q', d', h, e3, e4⟩ := key (z == 5)
    refine ⟨x', y', s', q', d', evk hz (evn (by omega) (evsucc ?_)), by omega, by omega⟩
    simp only [spec_l16Op.j0]
    refine evn (by simp) (evsucc ?_)
    simp only [spec_l16Op.j1]
    exact evn z3 h
theorem draw_ok {l : List Int} (hb : Bytes l) : ∃ b t x y s, Ev (fun k => spec_DrawApplyOp.f k l) (b, t, x, y, s) := by
  obtain ⟨x, y, s, q, d, ho, e1, e2⟩ := op_ok hb 0 0 (by omega) (by omega)
  obtain ⟨g, q2, d2, hg, e3, e4⟩ := one_ok hb q d 4 (by omega) (by omega) (by omega)
  obtain ⟨b, q3, d3, hs, e5, e6⟩ := bytes_ok hb q2 d2 (by omega) (by omega)
  refine ⟨b, !g, x, y, s, ?_⟩
  unfold spec_DrawApplyOp.f spec_l00From.f spec_l16Plain.f
  simp only [Option.bind_some]
  exact evb ho (evk hg (evb hs (evc fun _ => rfl)))
theorem aop (b : ByteArray) (t : Bool) (x y : Int) (s : ByteArray) (hb : b.size ≤ 64) (hbt : t = false → b = ⟨#[]⟩) (ok : ∀ k, impl_OpOk.f (k + 1) 1 0 x y s = some true) (k : Nat) : impl_ApplyOp.f (k + 2) b t x y s = impl_Op_apply.j0 (k + 2) b t x y s := by
  unfold impl_ApplyOp.f impl_plainCode.f
  simp only [Option.bind_some, ok (k + 1), if_true]
  rw [if_neg (by omega)]
  have e : impl_Op_apply.f (k + 2) x y s b t = impl_Op_apply.j0 (k + 2) b t x y s := by
    unfold impl_Op_apply.f
    cases t with
    | true => rfl
    | false => rw [hbt rfl]; rfl
  rw [e]
  cases impl_Op_apply.j0 (k + 2) b t x y s <;> rfl
theorem ok1 (k : Nat) : impl_OpOk.f (k + 1) 1 0 1 0 (⟨#[]⟩ : ByteArray) = some true := by
  have e : (⟨#[]⟩ : ByteArray).toList = [] := by rw [Lib.toList_data]
  simp [impl_OpOk.f, codeOk_impl, codeB, impl_OpOk.j0, e]
theorem ok6 (k : Nat) : impl_OpOk.f (k + 1) 1 0 6 0 (⟨#[]⟩ : ByteArray) = some true := by
  have e : (⟨#[]⟩ : ByteArray).toList = [] := by rw [Lib.toList_data]
  simp [impl_OpOk.f, codeOk_impl, codeB, impl_OpOk.j0, e]
theorem ok2 (s : ByteArray) (hs : s.size ≤ 64) (k : Nat) : impl_OpOk.f (k + 1) 1 0 2 0 s = some true := by
  simp [impl_OpOk.f, codeOk_impl, codeB, impl_OpOk.j0]
  omega
theorem ok4 (s : ByteArray) (hs : s.size ≤ 64) (k : Nat) : impl_OpOk.f (k + 1) 1 0 4 0 s = some true := by
  simp [impl_OpOk.f, codeOk_impl, codeB, impl_OpOk.j0]
  omega
theorem ok3 (s : ByteArray) (hs : s.size ≤ 64) (n : Int) (h0 : 0 ≤ n) (h1 : n ≤ 64) (k : Nat) : impl_OpOk.f (k + 1) 1 0 3 n s = some true := by
  simp [impl_OpOk.f, codeOk_impl, codeB, impl_OpOk.j0, between_eq, h0, h1]
  omega
theorem j1_true (b : ByteArray) (t : Bool) (x y : Int) (s : ByteArray) (hb : b.size ≤ 64) (hs : s.size ≤ 64) (hbt : t = false → b = ⟨#[]⟩) (k : Nat) : laws_FnOpSame.j1 (k + 3) b t x y s = some true := by
  have e : (⟨#[]⟩ : ByteArray).toList = [] := by rw [Lib.toList_data]
  obtain ⟨r, hr⟩ : ∃ r, impl_overwritten.f b (b.size : Int) s = some r := by
    unfold impl_overwritten.f
    rw [if_pos ⟨by omega, by omega, hb, hs⟩]
    exact ⟨_, rfl⟩
  simp only [laws_FnOpSame.j1]
  rw [aop b t 1 0 _ hb hbt ok1 k, aop b t 2 0 s hb hbt (ok2 s hs) k, aop b t 4 0 s hb hbt (ok4 s hs) k, aop b t 3 _ s hb hbt (ok3 s hs _ (by omega) (by omega)) k, aop b t 6 0 _ hb hbt ok6 k]
  have a2 : impl_Op_apply.j0 (k + 2) b t 2 0 s = some (s, true) := by simp [impl_Op_apply.j0]
  have a1 : impl_Op_apply.j0 (k + 2) b t 1 0 (⟨#[]⟩ : ByteArray) = some (b, t) := by simp [impl_Op_apply.j0]
  have a4 : impl_Op_apply.j0 (k + 2) b t 4 0 s = some (r, true) := by simp [impl_Op_apply.j0, hr]
  have a3 : impl_Op_apply.j0 (k + 2) b t 3 (b.size : Int) s = some (r, true) := by simp [impl_Op_apply.j0, hr]
  have a6 : impl_Op_apply.j0 (k + 2) b t 6 0 (⟨#[]⟩ : ByteArray) = some ((⟨#[]⟩ : ByteArray), false) := by simp [impl_Op_apply.j0]
  have a22 : impl_Op_apply.j0 (k + 2) s true 2 0 s = some (s, true) := by simp [impl_Op_apply.j0]
  rw [a1, a2, a3, a4, a6]
  simp only [Option.bind_some]
  rw [aop s true 2 0 s hs (by simp) (ok2 s hs) k, a22]
  simp [e]
theorem j0_true (b : ByteArray) (t g : Bool) (x y : Int) (s : ByteArray) (h : g = false → b.size ≤ 64 ∧ s.size ≤ 64) (k : Nat) : laws_FnOpSame.j0 (k + 4) b t g x y s = some true := by
  simp only [laws_FnOpSame.j0]
  cases g with
  | true => rfl
  | false =>
    obtain ⟨hb, hs⟩ := h rfl
    cases t with
    | true => exact j1_true b true x y s hb hs (by simp) k
    | false => exact j1_true (⟨#[]⟩ : ByteArray) false x y s (by decide) hs (fun _ => rfl) k
theorem FnOpSame : Stmt.FnOpSame.PureS := by
  intro l0 l1 ⟨_, _, hw0⟩ ⟨_, _, hw1⟩
  have hb0 : Bytes l0 := fun x hx => Go.bounds_u8 (hw0 x hx)
  obtain ⟨b, t, x, y, s, hd⟩ := draw_ok hb0
  apply ev_ex
  unfold laws_FnOpSame.f
  obtain ⟨g, hg⟩ : ∃ b, laws_b10Long.f l0 l1 = some b := by unfold laws_b10Long.f; split <;> exact ⟨_, rfl⟩
  refine evk hg ?_
  cases g with
  | true => exact evp (by trivial) (evc fun _ => rfl)
  | false =>
    refine evn (by simp) (evb hd ?_)
    by_cases h : (b.size : Int) > 64
    · exact evp h ⟨4, fun k hk => by
        obtain ⟨m, rfl⟩ : ∃ m, k = m + 4 := ⟨k - 4, by omega⟩
        exact j0_true b t true x y s (by simp) m⟩
    · exact evn h ⟨4, fun k hk => by
        obtain ⟨m, rfl⟩ : ∃ m, k = m + 4 := ⟨k - 4, by omega⟩
        exact j0_true b t (decide ((s.size : Int) > 64)) x y s (fun hh => ⟨by omega, by have := of_decide_eq_false hh; omega⟩) m⟩
end Go.Proofs.Ythphhklbliambaa.Pure
