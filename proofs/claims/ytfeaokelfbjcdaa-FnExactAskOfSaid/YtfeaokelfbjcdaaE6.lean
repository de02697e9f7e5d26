/- The engine, part 6: rows: literals, new rows, stores into rows, append, copy; maps. No condition. -/
import Derived.Test.YtfeaokelfbjcdaaE5
import Derived.Great.FillDense
namespace Go.Ve
open Go.RowKit
set_option linter.unusedVariables false
set_option linter.unusedSimpArgs false

/-! ### Values that go into a row: rows of their own are frozen -/
structure EmbR where
  c : Prop
  v : AV
  rs : List Nat
def emb0 (st : List Root) (m : Nat) : AV → EmbR
  | .osl r w off len => match st[r]? with
    | some (.row t w' xs) => ⟨w = w' ∧ off + len ≤ xs.length, .sl m w ((xs.drop off).take len), [r]⟩
    | _ => ⟨False, .undef, []⟩
  | x => ⟨x.isD = true, x, []⟩
def emb (st : List Root) (m : Nat) : AV → EmbR
  | .agg cs => ⟨∀ c ∈ cs, (emb0 st m c).c, .agg (cs.map fun c => (emb0 st m c).v), cs.flatMap fun c => (emb0 st m c).rs⟩
  | x => emb0 st m x
def gones (st : List Root) (rs : List Nat) : List Root := rs.foldl (fun st r => st.set r .gone) st

section
variable {P : Program} {C : Ctx} {sz : Nat} {e : Env} {a : Act} {W : World} {D : Nat → Nat → Prop} {β : Nat → Option Nat}

theorem emb0_rows {st : List Root} {m : Nat} {x : AV} (hc : (emb0 st m x).c) : ∀ r ∈ (emb0 st m x).rs, ∃ t w xs, st[r]? = some (.row t w xs) := by
  unfold emb0 at hc ⊢
  split
  · rename_i r w off len
    cases hr : st[r]? with
    | none => simp [hr] at hc
    | some R => cases R <;> simp [hr] at hc ⊢
  · intro r hr; cases hr
theorem emb_rows {st : List Root} {m : Nat} {x : AV} (hc : (emb st m x).c) : ∀ r ∈ (emb st m x).rs, ∃ t w xs, st[r]? = some (.row t w xs) := by
  cases x
  case agg cs =>
    intro r hr
    simp only [emb, List.mem_flatMap] at hr
    obtain ⟨c, h1, h2⟩ := hr
    exact emb0_rows (hc c h1) r h2
  all_goals exact emb0_rows hc

theorem gones_length (rs : List Nat) : ∀ st : List Root, (gones st rs).length = st.length := by
  induction rs with
  | nil => intro st; rfl
  | cons r rs ih => intro st; simp only [gones, List.foldl_cons] at ih ⊢; rw [ih]; simp

/-- All of them are frozen. -/
theorem St.freezes {m : Nat} (hm : C.n ≤ m) (rs : List Nat) : ∀ {e : Env} {D : Nat → Nat → Prop} (st0 : List Root), St C sz e a W D β → (∀ r ∈ rs, ∃ t w xs, st0[r]? = some (.row t w xs)) → (∀ r ∈ rs, e.st[r]? = st0[r]? ∨ ∀ g, β r = some g → D m g) →
    ∃ D', (∀ ρ b, D ρ b → D' ρ b) ∧ (∀ r ∈ rs, ∀ g, β r = some g → D' m g) ∧ St C sz ⟨e.tm, gones e.st rs⟩ a W D' β := by
  induction rs with
  | nil => intro e D st0 h _ _; exact ⟨D, (fun _ _ h => h), (fun r hr => by cases hr), h⟩
  | cons r rs ih =>
    intro e D st0 h hrow hst
    have step : ∃ D1, (∀ ρ b, D ρ b → D1 ρ b) ∧ (∀ g, β r = some g → D1 m g) ∧ St C sz ⟨e.tm, e.st.set r .gone⟩ a W D1 β := by
      rcases hst r (List.mem_cons_self ..) with h1 | h1
      · obtain ⟨t, w, xs, h2⟩ := hrow r (List.mem_cons_self ..)
        obtain ⟨D1, k1, k2, _, k4⟩ := h.freeze (h1.trans h2) hm
        exact ⟨D1, k1, k2, k4⟩
      · exact ⟨D, fun _ _ h => h, h1, h.gone r⟩
    obtain ⟨D1, k1, k2, k3⟩ := step
    obtain ⟨D2, j1, j2, j3⟩ := ih (e := ⟨e.tm, e.st.set r .gone⟩) st0 k3 (fun q hq => hrow q (List.mem_cons_of_mem _ hq)) (fun q hq => by
      by_cases hqr : r = q
      · subst hqr; exact .inr k2
      · simp only [List.getElem?_set_ne hqr]
        exact (hst q (List.mem_cons_of_mem _ hq)).imp id (fun h g hg => k1 _ _ (h g hg)))
    exact ⟨D2, fun ρ b hb => j1 _ _ (k1 _ _ hb), fun q hq => by
      rcases List.mem_cons.1 hq with rfl | hq
      · exact fun g hg => j1 _ _ (k2 g hg)
      · exact j2 q hq, j3⟩

theorem emb0_ok {st : List Root} {m : Nat} {D' : Nat → Nat → Prop} {v : Value} {x : AV} (hs : ∀ r R, st[r]? = some R → RootOk W D β r R) (hD : ∀ ρ b, D ρ b → D' ρ b) (hr : ∀ r ∈ (emb0 st m x).rs, ∀ g, β r = some g → D' m g) (h : Rep W D β v x) (hc : (emb0 st m x).c) : RepD W D' v (emb0 st m x).v := by
  have hmv : Mv W W D D' β β (fun _ => True) := ⟨fun ρ b hb => ⟨rfl, hD ρ b hb⟩, Keeps.refl W, fun _ _ => rfl⟩
  unfold emb0 at hc hr ⊢
  split at hc
  · rename_i r w off len
    cases hR : st[r]? with
    | none => simp [hR] at hc
    | some R =>
      cases R <;> simp [hR] at hc hr ⊢
      rename_i t w' xs
      obtain ⟨rfl, hl⟩ := hc
      exact osl_data (t := t) ((hs r _ hR).mv hmv rfl (fun _ _ => rfl) (fun _ _ _ _ _ _ _ => trivial)) hr (h.mv hmv (fun _ _ => trivial)) hl
  · exact (h.toD hc).mono (fun ρ b hb => ⟨rfl, hD ρ b hb⟩)

/-- The cells of an embedded value. -/
theorem emb_ok {st : List Root} {m : Nat} {D' : Nat → Nat → Prop} {v : Value} {x : AV} (hs : ∀ r R, st[r]? = some R → RootOk W D β r R) (hD : ∀ ρ b, D ρ b → D' ρ b) (hr : ∀ r ∈ (emb st m x).rs, ∀ g, β r = some g → D' m g) (h : Rep W D β v x) (hc : (emb st m x).c) :
    v.cells.size = (emb st m x).v.cells.length ∧ ∀ (j : Nat) (y : AV), (emb st m x).v.cells[j]? = some y → ∃ u, v.cells[j]? = some u ∧ RepD W D' u y := by
  have leaf : ∀ (hr : ∀ r ∈ (emb0 st m x).rs, ∀ g, β r = some g → D' m g) (hc : (emb0 st m x).c), v.cells.size = (emb0 st m x).v.cells.length ∧ ∀ (j : Nat) (y : AV), (emb0 st m x).v.cells[j]? = some y → ∃ u, v.cells[j]? = some u ∧ RepD W D' u y := by
    intro hr hc
    have hd := emb0_ok hs hD hr h hc
    have h1 := hd.oneCell
    have hcell : (emb0 st m x).v.cells = [(emb0 st m x).v] := by
      generalize (emb0 st m x).v = y at hd
      cases hd <;> rfl
    rw [hcell, cells_leaf h1]
    refine ⟨rfl, fun j y hy => ?_⟩
    cases j with
    | zero => simp at hy; subst hy; exact ⟨v, rfl, hd⟩
    | succ j => simp at hy
  cases x
  case agg cs =>
    simp only [emb] at hc hr ⊢
    obtain ⟨vs, rfl, hl, hv⟩ := agg_inv h
    refine ⟨by simp only [AV.cells, List.length_map]; exact hl, fun j y hy => ?_⟩
    simp only [AV.cells, List.getElem?_map, Option.map_eq_some_iff] at hy
    obtain ⟨c, hc1, rfl⟩ := hy
    obtain ⟨u, u1, u2, u3⟩ := hv j c hc1
    exact ⟨u, u1, emb0_ok hs hD (fun r hr0 => hr r (List.mem_flatMap.2 ⟨c, List.mem_of_getElem? hc1, hr0⟩)) u3 (hc c (List.mem_of_getElem? hc1))⟩
  all_goals exact leaf hr hc

/-! ### A new row -/
/-- A block whose first cells are the elements xs. -/
theorem St.new_row (h : St C sz e a W D β) {t w cap : Nat} {xs : List AV} {cur : Array Value} (hsz : cur.size = cap * w) (hcap : cap ≤ maxLen) (hl : xs.length ≤ cap)
    (hx : ∀ (i : Nat) (x : AV), xs[i]? = some x → x.cells.length = w ∧ ∀ (j : Nat) (y : AV), x.cells[j]? = some y → ∃ u, cur[i * w + j]? = some u ∧ RepD W D u y) :
    St C sz ⟨e.tm, e.st ++ [.row t w xs]⟩ a (W.alloc (.cells cur t)) D (upd β e.st.length W.heap.size) ∧
      Rep (W.alloc (.cells cur t)) D (upd β e.st.length W.heap.size) (.slice (some ⟨W.heap.size, 0, none⟩) xs.length cap) (.osl e.st.length w 0 xs.length) := by
  constructor
  · refine h.alloc _ _ (.inr ⟨W.heap.size, cur, by simp [upd], ha_new W _, fun i x hi => ⟨(hx i x hi).1, fun j y hy => ?_⟩⟩) (fun _ _ _ _ hR _ _ => by cases hR)
    obtain ⟨u, u1, u2⟩ := (hx i x hi).2 j y hy
    exact ⟨u, u1, u2.mono (fun ρ b hb => ⟨ha_old W _ b (h.mem.lt ρ b hb), hb⟩)⟩
  · refine .osl _ _ _ _ _ (.inr ⟨W.heap.size, cap, t, cur, by simp [upd], by simp, ha_new W _, by simpa using hsz, by omega, hl⟩)

/-- A row that is nil. -/
theorem St.virt (h : St C sz e a W D β) (t w : Nat) : ∃ β', (∀ q, q < e.st.length → β' q = β q) ∧ St C sz ⟨e.tm, e.st ++ [.row t w []]⟩ a W D β' ∧ Rep W D β' (.slice none 0 0) (.osl e.st.length w 0 0) := by
  let β' : Nat → Option Nat := fun q => if q = e.st.length then none else β q
  have same : ∀ q, q < e.st.length → β' q = β q := fun q hq => by simp only [β']; rw [if_neg (by omega)]
  have newb : β' e.st.length = none := by simp [β']
  have hmv : Mv W W D D β β' (· < e.st.length) := ⟨fun ρ b hb => ⟨rfl, hb⟩, Keeps.refl W, same⟩
  have old : ∀ q g, Live (e.st ++ [.row t w []]) q → β' q = some g → Live e.st q ∧ β q = some g := by
    intro q g hq hg
    rcases live_app hq with rfl | hq
    · rw [newb] at hg; cases hg
    · exact ⟨hq, by rw [← same q (live_lt hq)]; exact hg⟩
  refine ⟨β', same, ⟨⟨⟨fun q R hq => ?_, fun q q' g h1 h2 h3 h4 => ?_, fun q g ρ h1 h2 => ?_⟩, h.mem.os, h.mem.tape, h.mem.output, h.mem.size, h.mem.frame, h.mem.keeps, h.mem.dup, h.mem.dfix, h.mem.dnew, h.mem.thaw, fun q g h1 h2 => ?_, h.mem.lt, h.mem.sep, fun r hr => by have := h.mem.kst; rw [same r (by omega)]; exact h.mem.hand r hr, by have := h.mem.kst; simp; omega⟩, fun i => (h.tm i).mv hmv (fun q hq => h.nm i q hq), fun i q hq => ?_, fun q t' cs y p hq hy hp => ?_, h.dd, h.sz⟩, .osl _ _ _ _ _ (.inl ⟨newb, rfl, rfl, rfl⟩)⟩
  · by_cases hql : q < e.st.length
    · rw [List.getElem?_append_left hql] at hq
      exact (h.mem.store.root q R hq).mv hmv (same q hql) (fun _ _ => rfl) (fun t cs y p hR hy hp => h.bx q t cs y p (hR ▸ hq) hy hp)
    · have hl := (List.getElem?_eq_some_iff.1 hq).1
      simp at hl
      obtain rfl : q = e.st.length := by omega
      simp at hq
      subst hq
      exact .inl ⟨newb, rfl⟩
  · obtain ⟨k1, k2⟩ := old q g h1 h3
    obtain ⟨k3, k4⟩ := old q' g h2 h4
    exact h.mem.store.inj q q' g k1 k3 k2 k4
  · obtain ⟨k1, k2⟩ := old q g h1 h2
    exact h.mem.store.far q g ρ k1 k2
  · obtain ⟨k1, k2⟩ := old q g h1 h2
    exact h.mem.own q g k1 k2
  · have := h.nm i q hq
    simp; omega
  · simp
    by_cases hql : q < e.st.length
    · rw [List.getElem?_append_left hql] at hq
      have := h.bx q t' cs y p hq hy hp
      omega
    · have hl := (List.getElem?_eq_some_iff.1 hq).1
      simp at hl
      obtain rfl : q = e.st.length := by omega
      simp at hq

/-! ### Literals -/
theorem fill_zip (w : Nat) (vs : List Value) (parts : List (Nat × Value)) (hp : parts = (vs.zipIdx 0).map fun x => (x.2, x.1)) (hw : 0 < w) (cells : Array Value) (h1 : ∀ v ∈ vs, v.cells.size = w) (hn : vs.length * w = cells.size) :
    Instr.fill (fun i => some (i * w, w)) cells parts = some (vs.flatMap fun v => v.cells.toList).toArray := by
  rw [hp]; exact Great.fill_whole hw vs cells h1 hn

theorem flat_at {w : Nat} {vs : List Value} (h1 : ∀ v ∈ vs, v.cells.size = w) {i j : Nat} (hj : j < w) {v : Value} (hv : vs[i]? = some v) : (vs.flatMap fun v => v.cells.toList).toArray[i * w + j]? = v.cells[j]? := by
  rw [List.getElem?_toArray, Great.flat_get (by omega) vs h1]
  have e1 : (i * w + j) / w = i := by rw [Nat.mul_comm, Nat.mul_add_div (by omega)]; rw [Nat.div_eq_of_lt hj]; omega
  have e2 : (i * w + j) % w = j := by rw [Nat.mul_comm, Nat.mul_add_mod]; exact Nat.mod_eq_of_lt hj
  rw [e1, e2, hv]; rfl
end
end Go.Ve
