/- The engine, part 4: a machine's state and an environment; what a new block, a frozen root and a write do to them. No condition. -/
import Derived.Test.YtfeaokelfbjcdaaE3
namespace Go.Ve
open Go.RowKit
set_option linter.unusedVariables false
set_option linter.unusedSimpArgs false

/-- Where a call began: the memory, the regions, the blocks handed over for writing; regions from n on may grow; the first k roots are those handed over: they keep their blocks. -/
structure Ctx where
  W : World
  D : Nat → Nat → Prop
  O : Nat → Prop
  n : Nat
  β : Nat → Option Nat
  k : Nat

/-- A row of cells no part of which is frozen for good. -/
def Thaw (W : World) (b : Nat) : Prop := ∃ (cur : Array Value) (t : Nat), W.heap[b]? = some (.cells cur t (0, 0))
theorem Thaw.keeps {W W' : World} {b : Nat} (h : Thaw W b) (k : Keeps W W') : Thaw W' b :=
  let ⟨cur, t, h1⟩ := h; let ⟨cur', h2, _⟩ := k b t cur (0, 0) h1; ⟨cur', t, h2⟩

structure MemOk (C : Ctx) (W : World) (D : Nat → Nat → Prop) (β : Nat → Option Nat) (st : List Root) : Prop where
  store : StoreOk W D β st
  os : W.os = C.W.os
  tape : W.tape = C.W.tape
  output : W.output = C.W.output
  size : C.W.heap.size ≤ W.heap.size
  frame : ∀ b, b < C.W.heap.size → ¬ C.O b → W.heap[b]? = C.W.heap[b]?
  keeps : Keeps C.W W
  dup : ∀ ρ b, C.D ρ b → D ρ b
  dfix : ∀ ρ b, ρ < C.n → D ρ b → C.D ρ b
  dnew : ∀ ρ b, D ρ b → C.D ρ b ∨ C.W.heap.size ≤ b ∨ C.O b
  thaw : ∀ ρ b, D ρ b → C.D ρ b ∨ Thaw W b
  own : ∀ r g, Live st r → β r = some g → C.W.heap.size ≤ g ∨ C.O g
  lt : ∀ ρ b, D ρ b → b < W.heap.size
  sep : ∀ ρ ρ' b, D ρ b → D ρ' b → ρ = ρ'
  hand : ∀ r, r < C.k → β r = C.β r
  kst : C.k ≤ st.length

structure St (C : Ctx) (sz : Nat) (e : Env) (a : Act) (W : World) (D : Nat → Nat → Prop) (β : Nat → Option Nat) : Prop where
  mem : MemOk C W D β e.st
  tm : ∀ i, Rep W D β (a.tmps.getD i undef) (tv e.tm i)
  nm : ∀ i q, Names (tv e.tm i) q → q < e.st.length
  bx : ∀ (r t : Nat) (cs : List AV) (y : AV) (q : Nat), e.st[r]? = some (Root.box t cs) → y ∈ cs → Names y q → q < e.st.length
  dd : a.defers = []
  sz : a.tmps.size = sz

def Env.put (e : Env) (d : Option Nat) (x : AV) : Env :=
  match d with
  | some i => ⟨(i, x) :: e.tm, e.st⟩
  | none => e

section
variable {C : Ctx} {sz : Nat} {e : Env} {a : Act} {W W' : World} {D D' : Nat → Nat → Prop} {β β' : Nat → Option Nat}

theorem St.fine (h : St C sz e a W D β) : Fine W D β e a := ⟨h.tm, h.nm, h.mem.store.root, h.bx⟩

theorem getD_put (a : Act) (d : Nat) (v : Value) (hd : d < a.tmps.size) (i : Nat) : (a.put (some d) v).tmps.getD i undef = if d = i then v else a.tmps.getD i undef := by
  simp only [Act.put, Array.getD_eq_getD_getElem?, Array.getElem?_setIfInBounds]
  split <;> simp_all

theorem St.put (h : St C sz e a W D β) {dst : Option Nat} (hd : ∀ d, dst = some d → d < sz) {v : Value} {x : AV} (hx : Rep W D β v x) (hn : ∀ q, Names x q → q < e.st.length) : St C sz (e.put dst x) (a.put dst v) W D β := by
  cases dst with
  | none => exact h
  | some d =>
    have hlt : d < a.tmps.size := by rw [h.sz]; exact hd d rfl
    refine ⟨h.mem, fun i => ?_, fun i q => ?_, h.bx, h.dd, by simp [Act.put, h.sz]⟩
    · rw [getD_put a d v hlt i]
      simp only [Env.put, tv]
      split
      · exact hx
      · exact h.tm i
    · simp only [Env.put, tv]
      split
      · exact hn q
      · exact h.nm i q

theorem RootOk.mv {ok : Nat → Prop} (h : Mv W W' D D' β β' ok) {r : Nat} {R : Root} (hr : RootOk W D β r R) (hβ : β' r = β r) (hb : ∀ g, β r = some g → W'.heap[g]? = W.heap[g]?)
    (hn : ∀ t cs y q, R = .box t cs → y ∈ cs → Names y q → ok q) : RootOk W' D' β' r R := by
  cases R with
  | gone => trivial
  | row t w xs =>
    rcases hr with ⟨h1, h2⟩ | ⟨g, cur, h1, h2, h3⟩
    · exact .inl ⟨hβ.trans h1, h2⟩
    · exact .inr ⟨g, cur, hβ.trans h1, (hb g h1).trans h2, fun i x hx => ⟨(h3 i x hx).1, fun j y hy => let ⟨u, k1, k2⟩ := (h3 i x hx).2 j y hy; ⟨u, k1, k2.mono h.data⟩⟩⟩
  | box t cs =>
    obtain ⟨g, cur, h1, h2, h3, h4⟩ := hr
    exact ⟨g, cur, hβ.trans h1, (hb g h1).trans h2, h3, fun j y hy => let ⟨u, k1, k2, k3⟩ := h4 j y hy; ⟨u, k1, k2, k3.mv h fun q hq => hn t cs y q rfl (List.mem_of_getElem? hy) hq⟩⟩
  | mp kv =>
    obtain ⟨g, es, clk, h1, h2, h3, h4⟩ := hr
    exact ⟨g, es, clk, hβ.trans h1, (hb g h1).trans h2, h3, fun i k x hx => let ⟨e, k1, k2, k3⟩ := h4 i k x hx; ⟨e, k1, k2.mono h.data, k3.mono h.data⟩⟩

theorem live_lt {st : List Root} {r : Nat} (h : Live st r) : r < st.length := by
  obtain ⟨R, h1, _⟩ := h
  exact (List.getElem?_eq_some_iff.1 h1).1

theorem live_app {st : List Root} {R : Root} {r : Nat} (h : Live (st ++ [R]) r) : r = st.length ∨ Live st r := by
  by_cases hr : r < st.length
  · obtain ⟨R', h1, h2⟩ := h
    rw [List.getElem?_append_left hr] at h1
    exact .inr ⟨R', h1, h2⟩
  · have := live_lt h
    simp at this
    exact .inl (by omega)

/-- The block of a live root is there. -/
theorem block_lt {st : List Root} (hs : ∀ r R, st[r]? = some R → RootOk W D β r R) {r g : Nat} (hl : Live st r) (hg : β r = some g) : g < W.heap.size := by
  obtain ⟨R, h1, h2⟩ := hl
  have := hs r R h1
  cases R with
  | gone => exact absurd rfl h2
  | row t w xs =>
    rcases this with ⟨h3, _⟩ | ⟨g', cur, h3, h4, _⟩
    · rw [hg] at h3; cases h3
    · rw [hg] at h3; injection h3 with h3; subst h3
      exact (Array.getElem?_eq_some_iff.1 h4).1
  | box t cs =>
    obtain ⟨g', cur, h3, h4, _⟩ := this
    rw [hg] at h3; injection h3 with h3; subst h3
    exact (Array.getElem?_eq_some_iff.1 h4).1
  | mp kv =>
    obtain ⟨g', es, clk, h3, h4, _⟩ := this
    rw [hg] at h3; injection h3 with h3; subst h3
    exact (Array.getElem?_eq_some_iff.1 h4).1

theorem ha_old (W : World) (o : Obj) (k : Nat) (hk : k < W.heap.size) : (W.alloc o).heap[k]? = W.heap[k]? := Below.heap_alloc W o k hk
theorem ha_new (W : World) (o : Obj) : (W.alloc o).heap[W.heap.size]? = some o := by show (W.heap.push o)[W.heap.size]? = _; simp

def upd (β : Nat → Option Nat) (r g : Nat) : Nat → Option Nat := fun q => if q = r then some g else β q

theorem keeps_alloc (W : World) (o : Obj) : Keeps W (W.alloc o) := fun b t cur fr h => ⟨cur, by
  rw [ha_old W o b (Array.getElem?_eq_some_iff.1 h).1]; exact h, rfl⟩

theorem mv_alloc (W : World) (o : Obj) (D : Nat → Nat → Prop) (hlt : ∀ ρ b, D ρ b → b < W.heap.size) (β β' : Nat → Option Nat) (ok : Nat → Prop) (hs : ∀ r, ok r → β' r = β r) : Mv W (W.alloc o) D D β β' ok :=
  ⟨fun ρ b hb => ⟨ha_old W o b (hlt ρ b hb), hb⟩, keeps_alloc W o, hs⟩

/-- A new block, and with it a new root. -/
theorem St.alloc (h : St C sz e a W D β) (o : Obj) (R : Root) (hR : RootOk (W.alloc o) D (upd β e.st.length W.heap.size) e.st.length R)
    (hb : ∀ t cs y q, R = .box t cs → y ∈ cs → Names y q → q < e.st.length) : St C sz ⟨e.tm, e.st ++ [R]⟩ a (W.alloc o) D (upd β e.st.length W.heap.size) := by
  have hmv := mv_alloc W o D h.mem.lt β (upd β e.st.length W.heap.size) (· < e.st.length) (fun r hr => by simp [upd]; omega)
  have hlt := @block_lt W D β e.st h.mem.store.root
  have size : (W.alloc o).heap.size = W.heap.size + 1 := by simp
  refine ⟨⟨⟨fun r R' hr => ?_, fun r r' g h1 h2 h3 h4 => ?_, fun r g ρ h1 h2 h3 => ?_⟩, h.mem.os, h.mem.tape, h.mem.output, by rw [size]; have := h.mem.size; omega, fun b hb hO => ?_, h.mem.keeps.trans (keeps_alloc W o), h.mem.dup, h.mem.dfix, h.mem.dnew, fun ρ b hb => (h.mem.thaw ρ b hb).imp_right fun k => k.keeps (keeps_alloc W o), fun r g h1 h2 => ?_, fun ρ b hb => by rw [size]; have := h.mem.lt ρ b hb; omega, h.mem.sep, fun r hr => by have := h.mem.kst; simp only [upd]; rw [if_neg (by omega)]; exact h.mem.hand r hr, by have := h.mem.kst; simp; omega⟩, fun i => ?_, fun i q hq => ?_, fun r t cs y q hr hy hq => ?_, h.dd, h.sz⟩
  · by_cases hlr : r < e.st.length
    · rw [List.getElem?_append_left hlr] at hr
      by_cases hgone : R' = .gone
      · subst hgone; trivial
      exact (h.mem.store.root r R' hr).mv hmv (by simp [upd]; omega) (fun g hg => ha_old W o g (hlt ⟨R', hr, hgone⟩ hg)) (fun t cs y q hR' hy hq => h.bx r t cs y q (hR' ▸ hr) hy hq)
    · have hl := (List.getElem?_eq_some_iff.1 hr).1
      simp at hl
      obtain rfl : r = e.st.length := by omega
      simp at hr
      subst hr
      exact hR
  · rcases live_app h1 with rfl | h1 <;> rcases live_app h2 with rfl | h2
    · rfl
    · have := live_lt h2
      simp only [upd, if_true, if_neg (by omega : ¬ r' = e.st.length)] at h3 h4
      injection h3 with h3
      have := hlt h2 h4
      omega
    · have := live_lt h1
      simp only [upd, if_true, if_neg (by omega : ¬ r = e.st.length)] at h3 h4
      injection h4 with h4
      have := hlt h1 h3
      omega
    · have l1 := live_lt h1
      have l2 := live_lt h2
      simp only [upd, if_neg (by omega : ¬ r = e.st.length), if_neg (by omega : ¬ r' = e.st.length)] at h3 h4
      exact h.mem.store.inj r r' g h1 h2 h3 h4
  · rcases live_app h1 with rfl | h1
    · simp only [upd, if_true] at h2
      injection h2 with h2
      have := h.mem.lt ρ g h3
      omega
    · have := live_lt h1
      simp only [upd, if_neg (by omega : ¬ r = e.st.length)] at h2
      exact h.mem.store.far r g ρ h1 h2 h3
  · rw [ha_old W o b (by have := h.mem.size; omega)]
    exact h.mem.frame b hb hO
  · rcases live_app h1 with rfl | h1
    · simp only [upd, if_true] at h2
      injection h2 with h2
      have := h.mem.size
      exact .inl (by omega)
    · have := live_lt h1
      simp only [upd, if_neg (by omega : ¬ r = e.st.length)] at h2
      exact h.mem.own r g h1 h2
  · exact (h.tm i).mv hmv (fun q hq => h.nm i q hq)
  · have := h.nm i q hq
    simp; omega
  · simp
    by_cases hlr : r < e.st.length
    · rw [List.getElem?_append_left hlr] at hr
      have := h.bx r t cs y q hr hy hq
      omega
    · have hl := (List.getElem?_eq_some_iff.1 hr).1
      simp at hl
      obtain rfl : r = e.st.length := by omega
      simp at hr
      have := hb t cs y q hr hy hq
      omega

theorem live_set_gone {st : List Root} {r q : Nat} (h : Live (st.set r .gone) q) : Live st q ∧ q ≠ r := by
  obtain ⟨R, h1, h2⟩ := h
  by_cases hq : r = q
  · subst hq
    have hl := (List.getElem?_eq_some_iff.1 h1).1
    rw [List.length_set] at hl
    simp [hl] at h1
    exact absurd h1.symm h2
  · rw [List.getElem?_set_ne hq] at h1
    exact ⟨⟨R, h1, h2⟩, fun e => hq e.symm⟩

theorem MemOk.gone {st : List Root} (h : MemOk C W D β st) (r : Nat) : MemOk C W D β (st.set r .gone) := by
  refine ⟨⟨fun q R hq => ?_, fun q q' g h1 h2 => h.store.inj q q' g (live_set_gone h1).1 (live_set_gone h2).1, fun q g ρ h1 => h.store.far q g ρ (live_set_gone h1).1⟩, h.os, h.tape, h.output, h.size, h.frame, h.keeps, h.dup, h.dfix, h.dnew, h.thaw, fun q g h1 => h.own q g (live_set_gone h1).1, h.lt, h.sep, h.hand, by simpa using h.kst⟩
  by_cases hqr : r = q
  · subst hqr
    have hl := (List.getElem?_eq_some_iff.1 hq).1
    rw [List.length_set] at hl
    simp [hl] at hq
    subst hq
    trivial
  · rw [List.getElem?_set_ne hqr] at hq
    exact h.store.root q R hq

/-- A root is given up. -/
theorem St.gone (h : St C sz e a W D β) (r : Nat) : St C sz ⟨e.tm, e.st.set r .gone⟩ a W D β :=
  ⟨h.mem.gone r, h.tm, fun i q hq => by simpa using h.nm i q hq, fun q t cs y p hr hy hp => by
    by_cases hqr : r = q
    · subst hqr
      have hl := (List.getElem?_eq_some_iff.1 hr).1
      simp at hl
      simp [hl] at hr
    · rw [List.getElem?_set_ne hqr] at hr
      simpa using h.bx q t cs y p hr hy hp, h.dd, h.sz⟩

theorem MemOk.drew {st : List Root} (h : MemOk C W D β st) : MemOk C W.drew D β st := by
  have hmv : Mv W W.drew D D β β (fun _ => True) := ⟨fun ρ b hb => ⟨rfl, hb⟩, fun b t cur fr hb => ⟨cur, hb, rfl⟩, fun _ _ => rfl⟩
  exact ⟨⟨fun r R hr => (h.store.root r R hr).mv hmv rfl (fun _ _ => rfl) (fun _ _ _ _ _ _ _ => trivial), h.store.inj, h.store.far⟩, h.os, h.tape, h.output, h.size, h.frame, h.keeps, h.dup, h.dfix, h.dnew, h.thaw, h.own, h.lt, h.sep, h.hand, h.kst⟩
/-- An answer is drawn. -/
theorem St.drew (h : St C sz e a W D β) : St C sz e a W.drew D β := by
  have hmv : Mv W W.drew D D β β (fun _ => True) := ⟨fun ρ b hb => ⟨rfl, hb⟩, fun b t cur fr hb => ⟨cur, hb, rfl⟩, fun _ _ => rfl⟩
  exact ⟨h.mem.drew, fun i => (h.tm i).mv hmv (fun _ _ => trivial), h.nm, h.bx, h.dd, h.sz⟩

theorem live_set {st : List Root} {r q : Nat} {R R' : Root} (hr : st[r]? = some R) (hR : R ≠ .gone) (h : Live (st.set r R') q) : Live st q := by
  by_cases hq : r = q
  · subst hq; exact ⟨R, hr, hR⟩
  · obtain ⟨R0, h1, h2⟩ := h
    rw [List.getElem?_set_ne hq] at h1
    exact ⟨R0, h1, h2⟩

/-- The block of a live root is written: a row of cells of the same size. -/
theorem St.write (h : St C sz e a W D β) {r g t : Nat} {R R' : Root} (hr : e.st[r]? = some R) (hR : R ≠ .gone) (hg : β r = some g) {cur cur' : Array Value} (hc : W.heap[g]? = some (.cells cur t (0, 0))) (hs : cur'.size = cur.size)
    (hR' : RootOk (W.setRow g cur') D β r R') (hb : ∀ t cs y q, R' = .box t cs → y ∈ cs → Names y q → q < e.st.length) : St C sz ⟨e.tm, e.st.set r R'⟩ a (W.setRow g cur') D β := by
  have hlive : Live e.st r := ⟨R, hr, hR⟩
  have hlt := @block_lt W D β e.st h.mem.store.root
  have other : ∀ b, b ≠ g → (W.setRow g cur').heap[b]? = W.heap[b]? := fun b hb => setRow_other W g b cur' hb
  have same := setRow_heap W g cur cur' t (0, 0) hc
  have keep : Keeps W (W.setRow g cur') := fun b t' c fr hb => by
    by_cases hbg : b = g
    · subst hbg
      rw [hc] at hb
      injection hb with hb
      injection hb with h1 h2 h3
      subst h1 h2 h3
      exact ⟨cur', same, hs⟩
    · exact ⟨c, (other b hbg).trans hb, rfl⟩
  have hmv : Mv W (W.setRow g cur') D D β β (fun _ => True) := ⟨fun ρ b hb => ⟨other b (fun e0 => h.mem.store.far r g ρ hlive hg (e0 ▸ hb)), hb⟩, keep, fun _ _ => rfl⟩
  have hrl : r < e.st.length := live_lt hlive
  refine ⟨⟨⟨fun q R0 hq => ?_, fun q q' g' h1 h2 => h.mem.store.inj q q' g' (live_set hr hR h1) (live_set hr hR h2), fun q g' ρ h1 => h.mem.store.far q g' ρ (live_set hr hR h1)⟩, h.mem.os, h.mem.tape, h.mem.output, by rw [setRow_size]; exact h.mem.size, fun b hb hO => ?_, h.mem.keeps.trans keep, h.mem.dup, h.mem.dfix, h.mem.dnew, fun ρ b hb => (h.mem.thaw ρ b hb).imp_right fun k => k.keeps keep, fun q g' h1 => h.mem.own q g' (live_set hr hR h1), fun ρ b hb => by rw [setRow_size]; exact h.mem.lt ρ b hb, h.mem.sep, h.mem.hand, by simpa using h.mem.kst⟩, fun i => (h.tm i).mv hmv (fun _ _ => trivial), fun i q hq => by simpa using h.nm i q hq, fun q t' cs y p hq hy hp => ?_, h.dd, h.sz⟩
  · by_cases hqr : r = q
    · subst hqr
      simp [hrl] at hq
      subst hq
      exact hR'
    · rw [List.getElem?_set_ne hqr] at hq
      by_cases hgone : R0 = .gone
      · subst hgone; trivial
      exact (h.mem.store.root q R0 hq).mv hmv rfl (fun g' hg' => other g' (fun e0 => hqr (h.mem.store.inj r q g hlive ⟨R0, hq, hgone⟩ hg (e0 ▸ hg')))) (fun _ _ _ _ _ _ _ => trivial)
  · rw [other b (fun e0 => by
      subst e0
      rcases h.mem.own r b hlive hg with h1 | h1
      · omega
      · exact hO h1)]
    exact h.mem.frame b hb hO
  · by_cases hqr : r = q
    · subst hqr
      simp [hrl] at hq
      simpa using hb t' cs y p hq hy hp
    · rw [List.getElem?_set_ne hqr] at hq
      simpa using h.bx q t' cs y p hq hy hp

/-- A live root moves to a new number. -/
theorem St.renew (h : St C sz e a W D β) {r : Nat} {R : Root} (hr : e.st[r]? = some R) (hR : R ≠ .gone) :
    ∃ β', (∀ q, q < e.st.length → β' q = β q) ∧ β' e.st.length = β r ∧ St C sz ⟨e.tm, e.st.set r .gone ++ [R]⟩ a W D β' := by
  let β' : Nat → Option Nat := fun q => if q = e.st.length then β r else β q
  have hlive : Live e.st r := ⟨R, hr, hR⟩
  have hrl := live_lt hlive
  have same : ∀ q, q < e.st.length → β' q = β q := fun q hq => by simp only [β']; rw [if_neg (by omega)]
  have newb : β' e.st.length = β r := by simp [β']
  have hmv : Mv W W D D β β' (· < e.st.length) := ⟨fun ρ b hb => ⟨rfl, hb⟩, Keeps.refl W, same⟩
  -- the root of a new number
  have back : ∀ q, Live (e.st.set r .gone ++ [R]) q → ∃ p, Live e.st p ∧ β' q = β p ∧ ((q = e.st.length ∧ p = r) ∨ (q < e.st.length ∧ p = q ∧ q ≠ r)) := by
    intro q hq
    rcases live_app hq with hq | hq
    · simp at hq
      subst hq
      exact ⟨r, hlive, newb, .inl ⟨rfl, rfl⟩⟩
    · obtain ⟨h1, h2⟩ := live_set_gone hq
      have := live_lt h1
      exact ⟨q, h1, same q this, .inr ⟨this, rfl, h2⟩⟩
  refine ⟨β', same, newb, ⟨⟨⟨fun q R0 hq => ?_, fun q q' g h1 h2 h3 h4 => ?_, fun q g ρ h1 h2 => ?_⟩, h.mem.os, h.mem.tape, h.mem.output, h.mem.size, h.mem.frame, h.mem.keeps, h.mem.dup, h.mem.dfix, h.mem.dnew, h.mem.thaw, fun q g h1 h2 => ?_, h.mem.lt, h.mem.sep, fun r hr => by have := h.mem.kst; rw [same r (by omega)]; exact h.mem.hand r hr, by have := h.mem.kst; simp; omega⟩, fun i => (h.tm i).mv hmv (fun q hq => h.nm i q hq), fun i q hq => ?_, fun q t cs y p hq hy hp => ?_, h.dd, h.sz⟩⟩
  · by_cases hql : q < e.st.length
    · rw [List.getElem?_append_left (by simpa using hql)] at hq
      by_cases hqr : r = q
      · subst hqr
        simp [hrl] at hq
        subst hq
        trivial
      · rw [List.getElem?_set_ne hqr] at hq
        exact (h.mem.store.root q R0 hq).mv hmv (same q hql) (fun _ _ => rfl) (fun t cs y p hR0 hy hp => h.bx q t cs y p (hR0 ▸ hq) hy hp)
    · have hl := (List.getElem?_eq_some_iff.1 hq).1
      simp at hl
      obtain rfl : q = e.st.length := by omega
      rw [List.getElem?_append_right (by simp)] at hq
      simp at hq
      subst hq
      have h0 := (h.mem.store.root r R hr)
      have h1 := h0.mv hmv (same r hrl) (fun _ _ => rfl) (fun t cs y p hR0 hy hp => h.bx r t cs y p (hR0 ▸ hr) hy hp)
      have hbb : β' e.st.length = β' r := newb.trans (same r hrl).symm
      cases R with
      | gone => trivial
      | row t w xs =>
        rcases h1 with ⟨k1, k2⟩ | ⟨g, cur, k1, k2⟩
        · exact .inl ⟨hbb.trans k1, k2⟩
        · exact .inr ⟨g, cur, hbb.trans k1, k2⟩
      | box t cs => obtain ⟨g, cur, k1, k2⟩ := h1; exact ⟨g, cur, hbb.trans k1, k2⟩
      | mp kv => obtain ⟨g, es, clk, k1, k2⟩ := h1; exact ⟨g, es, clk, hbb.trans k1, k2⟩
  · obtain ⟨p, p1, p2, p3⟩ := back q h1
    obtain ⟨p', p1', p2', p3'⟩ := back q' h2
    rw [p2] at h3
    rw [p2'] at h4
    have := h.mem.store.inj p p' g p1 p1' h3 h4
    omega
  · obtain ⟨p, p1, p2, _⟩ := back q h1
    rw [p2] at h2
    exact h.mem.store.far p g ρ p1 h2
  · obtain ⟨p, p1, p2, _⟩ := back q h1
    rw [p2] at h2
    exact h.mem.own p g p1 h2
  · have := h.nm i q hq
    simp; omega
  · simp
    by_cases hql : q < e.st.length
    · rw [List.getElem?_append_left (by simpa using hql)] at hq
      by_cases hqr : r = q
      · subst hqr
        simp [hrl] at hq
      · rw [List.getElem?_set_ne hqr] at hq
        have := h.bx q t cs y p hq hy hp
        omega
    · have hl := (List.getElem?_eq_some_iff.1 hq).1
      simp at hl
      obtain rfl : q = e.st.length := by omega
      rw [List.getElem?_append_right (by simp)] at hq
      simp at hq
      have := h.bx r t cs y p (hq ▸ hr) hy hp
      omega

/-- A row's block joins region m: it is never written again. -/
theorem St.freeze (h : St C sz e a W D β) {r m t w : Nat} {xs : List AV} (hr : e.st[r]? = some (.row t w xs)) (hm : C.n ≤ m) :
    ∃ D' : Nat → Nat → Prop, (∀ ρ b, D ρ b → D' ρ b) ∧ (∀ g, β r = some g → D' m g) ∧ (∀ ρ b, ρ ≠ m → D' ρ b → D ρ b) ∧ St C sz ⟨e.tm, e.st.set r .gone⟩ a W D' β := by
  have hlive : Live e.st r := ⟨_, hr, by simp⟩
  let D' : Nat → Nat → Prop := fun ρ b => D ρ b ∨ (ρ = m ∧ β r = some b)
  have up : ∀ ρ b, D ρ b → D' ρ b := fun ρ b hb => .inl hb
  have hmv : Mv W W D D' β β (fun _ => True) := ⟨fun ρ b hb => ⟨rfl, up ρ b hb⟩, Keeps.refl W, fun _ _ => rfl⟩
  have hg := h.gone r
  refine ⟨D', up, fun g hg => .inr ⟨rfl, hg⟩, fun ρ b hne hb => ?_, ⟨⟨⟨fun q R0 hq => ?_, hg.mem.store.inj, fun q g ρ h1 h2 h3 => ?_⟩, h.mem.os, h.mem.tape, h.mem.output, h.mem.size, h.mem.frame, h.mem.keeps, fun ρ b hb => up ρ b (h.mem.dup ρ b hb), fun ρ b hρ hb => ?_, fun ρ b hb => ?_, fun ρ b hb => ?_, hg.mem.own, fun ρ b hb => ?_, fun ρ ρ' b h1 h2 => ?_, h.mem.hand, by simpa using h.mem.kst⟩, fun i => (h.tm i).mv hmv (fun _ _ => trivial), hg.nm, hg.bx, h.dd, h.sz⟩⟩
  · rcases hb with hb | ⟨rfl, _⟩
    · exact hb
    · exact absurd rfl hne
  · exact (hg.mem.store.root q R0 hq).mv hmv rfl (fun _ _ => rfl) (fun _ _ _ _ _ _ _ => trivial)
  · rcases h3 with h3 | ⟨rfl, h3⟩
    · exact hg.mem.store.far q g ρ h1 h2 h3
    · obtain ⟨h4, h5⟩ := live_set_gone h1
      exact h5 (h.mem.store.inj q r g h4 hlive h2 h3)
  · rcases hb with hb | ⟨rfl, _⟩
    · exact h.mem.dfix ρ b hρ hb
    · omega
  · rcases hb with hb | ⟨rfl, hb⟩
    · exact h.mem.dnew ρ b hb
    · exact .inr (h.mem.own r b hlive hb)
  · rcases hb with hb | ⟨rfl, hb⟩
    · exact h.mem.thaw ρ b hb
    · rcases h.mem.store.root r _ hr with ⟨k1, _⟩ | ⟨g, cur, k1, k2, _⟩
      · rw [k1] at hb; cases hb
      · rw [k1] at hb; injection hb with hb; subst hb; exact .inr ⟨cur, _, k2⟩
  · rcases hb with hb | ⟨rfl, hb⟩
    · exact h.mem.lt ρ b hb
    · exact block_lt h.mem.store.root hlive hb
  · rcases h1 with h1 | ⟨rfl, h1⟩ <;> rcases h2 with h2 | ⟨rfl, h2⟩
    · exact h.mem.sep ρ ρ' b h1 h2
    · exact (h.mem.store.far r b ρ hlive h2 h1).elim
    · exact (h.mem.store.far r b ρ' hlive h1 h2).elim
    · rfl

/-- A frozen row's slice is data. -/
theorem osl_data {r t w off len m : Nat} {xs : List AV} {v : Value} (hR : RootOk W D β r (.row t w xs)) (hD : ∀ g, β r = some g → D m g) (h : Rep W D β v (.osl r w off len)) (hl : off + len ≤ xs.length) : RepD W D v (.sl m w ((xs.drop off).take len)) := by
  cases h with
  | data _ _ h => cases h
  | osl _ _ _ _ _ h =>
  have hlen : ((xs.drop off).take len).length = len := by rw [List.length_take, List.length_drop]; omega
  by_cases hz : len = 0
  · subst hz
    simp only [List.take_zero]
    rcases h with ⟨_, rfl, _⟩ | ⟨g, cap, t', cur, _, rfl, _⟩
    · exact .sl0 ..
    · exact .sl0 ..
  · rcases h with ⟨_, _, _, h⟩ | ⟨g, cap, t', cur, h1, rfl, h3, h4, h5, h6⟩
    · exact absurd h hz
    · rcases hR with ⟨k1, _⟩ | ⟨g', cur', k1, k2, k3⟩
      · rw [k1] at h1; cases h1
      · rw [h1] at k1; injection k1 with k1; subst k1
        have key : ∀ (i : Nat) (x : AV), ((xs.drop off).take len)[i]? = some x → xs[off + i]? = some x := by
          intro i x hx
          rw [List.getElem?_take] at hx
          split at hx
          · rwa [List.getElem?_drop] at hx
          · cases hx
        have := RepD.sl (W := W) (D := D) ⟨g, off * w, none⟩ cap m w ((xs.drop off).take len) (fun i j => (cur'[(off + i) * w + j]?).getD undef) rfl (hD g h1) (by rw [hlen]; exact h6) (by rw [hlen]; omega)
          (fun i x hx => (k3 _ x (key i x hx)).1) (fun i x j y hx hy => by
            obtain ⟨u, u1, u2⟩ := (k3 _ x (key i x hx)).2 j y hy
            rw [cell_of_row W g _ cur' t (0, 0) k2]
            have e0 : off * w + (i * w + j) = (off + i) * w + j := by rw [Nat.add_mul, Nat.add_assoc]
            simp only [e0, u1]
            rfl) (fun i x j y hx hy => by
            obtain ⟨u, u1, u2⟩ := (k3 _ x (key i x hx)).2 j y hy
            simp only [u1]
            exact u2)
        rw [hlen] at this
        exact this
end
end Go.Ve
