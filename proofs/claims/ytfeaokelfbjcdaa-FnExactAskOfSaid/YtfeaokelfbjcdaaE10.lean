/- The engine, part 10: contracts of functions (SatM), and what a call does to a state. No condition. -/
import Derived.Test.YtfeaokelfbjcdaaE9
namespace Go.Ve
open Go.RowKit
set_option linter.unusedVariables false
set_option linter.unusedSimpArgs false

/-! ### Names of roots, changed -/
def AV.ren0 (g : Nat → Nat) : AV → AV
  | .osl r w off len => .osl (g r) w off len
  | .ptr r w i j => .ptr (g r) w i j
  | .map r => .map (g r)
  | .fn _ _ | .agg _ | .tup _ | .gd _ _ => .undef
  | x => x
def AV.ren1 (g : Nat → Nat) : AV → AV
  | .fn f caps => .fn f (caps.map (AV.ren0 g))
  | x => x.ren0 g
def AV.ren2 (g : Nat → Nat) : AV → AV
  | .agg cs => .agg (cs.map (AV.ren1 g))
  | x => x.ren1 g
def AV.ren (g : Nat → Nat) : AV → AV
  | .tup cs => .tup (cs.map (AV.ren2 g))
  | x => x.ren2 g
def Root.ren (g : Nat → Nat) : Root → Root
  | .box t cs => .box t (cs.map (AV.ren1 g))
  | R => R

/-- Handed over: names by position; what is not handed over is not known. -/
def AV.rnp0 (pos : Nat → Option Nat) : AV → AV
  | .osl r w off len => match pos r with
    | some k => .osl k w off len
    | none => .undef
  | .ptr r w i j => match pos r with
    | some k => .ptr k w i j
    | none => .undef
  | .map r => match pos r with
    | some k => .map k
    | none => .undef
  | .fn _ _ | .agg _ | .tup _ | .gd _ _ => .undef
  | x => x
def AV.rnp1 (pos : Nat → Option Nat) : AV → AV
  | .fn f caps => .fn f (caps.map (AV.rnp0 pos))
  | x => x.rnp0 pos
def posOf : List Nat → Nat → Option Nat
  | [], _ => none
  | x :: m, q => if x = q then some 0 else (posOf m q).map (· + 1)

/-! ### An argument, as the callee sees it: what is not handed over is lent (region 0) -/
def cvD (st : List Root) (pos : Nat → Option Nat) : AV → Prop × AV
  | .osl r w off len => match pos r with
    | some _ => (True, .undef)
    | none => match st[r]? with
      | some (.row _ w' xs) => (w = w' ∧ off + len ≤ xs.length, .sl 0 w ((xs.drop off).take len))
      | _ => (True, .undef)
  | .ptr _ _ _ _ | .map _ | .fn _ _ | .agg _ | .tup _ | .gd _ _ => (True, .undef)
  | x => (True, x)
def cv0 (st : List Root) (pos : Nat → Option Nat) : AV → Prop × AV
  | .osl r w off len => match pos r with
    | some k => (True, .osl k w off len)
    | none => cvD st pos (.osl r w off len)
  | .ptr r w i j => match pos r with
    | some k => (True, .ptr k w i j)
    | none => match st[r]? with
      | some (.box _ cs) => (i = 0 ∧ ∀ c ∈ cs.drop j, (cvD st pos c).1, .dptr 0 ((cs.drop j).map fun c => (cvD st pos c).2))
      | some (.row _ w' xs) => (w = w' ∧ i < xs.length, .dptr 0 ((nth xs i).cells.drop j))
      | _ => (True, .undef)
  | .map r => match pos r with
    | some k => (True, .map k)
    | none => (True, .undef)
  | x => cvD st pos x
def cv1 (st : List Root) (pos : Nat → Option Nat) : AV → Prop × AV
  | .fn f caps => (∀ c ∈ caps, (cv0 st pos c).1, .fn f (caps.map fun c => (cv0 st pos c).2))
  | x => cv0 st pos x
def cv (st : List Root) (pos : Nat → Option Nat) : AV → Prop × AV
  | .agg cs => (∀ c ∈ cs, (cv1 st pos c).1, .agg (cs.map fun c => (cv1 st pos c).2))
  | x => cv1 st pos x

/-! ### Contracts -/
/-- A call of f enters its body. -/
def Enters (P : Program) (f : FuncId) : Prop := ∀ (args : Array Value) (W : World), (callFunc f args).run P W = .ok (.enter f args) W
def noz (D : Nat → Nat → Prop) : Nat → Nat → Prop := fun ρ b => ρ ≠ 0 ∧ D ρ b

/-- The contract: called with values that represent args, the roots rin handed over, f returns a value that represents res; of memory it turns only what was handed over; rout: the roots handed over, then the new ones. Regions from n on may grow; what comes back leans on no lent memory (region 0). -/
def SatM (P : Program) (n : Nat) (f : FuncId) (rin : List Root) (args : List AV) (rout : List Root) (res : AV) : Prop :=
  Enters P f ∧ ∀ (W : World) (D : Nat → Nat → Prop) (β : Nat → Option Nat) (vs : List Value),
    n ≠ 0 → StoreOk W D β rin → (∀ ρ b, D ρ b → b < W.heap.size) → (∀ ρ ρ' b, D ρ b → D ρ' b → ρ = ρ') →
    (∀ (r t : Nat) (cs : List AV) (y : AV) (q : Nat), rin[r]? = some (Root.box t cs) → y ∈ cs → Names y q → q < rin.length) →
    vs.length = args.length → (∀ (i : Nat) (x : AV), args[i]? = some x → ∃ v, vs[i]? = some v ∧ Rep W D β v x ∧ ∀ q, Names x q → q < rin.length) →
    Calls P f vs.toArray W fun e W' => ∃ v D' β', e = .returned v ∧ MemOk ⟨W, D, fun b => ∃ r, Live rin r ∧ β r = some b, n, β, rin.length⟩ W' D' β' rout ∧
      (∀ r R, rout[r]? = some R → RootOk W' (noz D') β' r R) ∧ (∀ (r t : Nat) (cs : List AV) (y : AV) (q : Nat), rout[r]? = some (Root.box t cs) → y ∈ cs → Names y q → q < rout.length) ∧
      Rep W' (noz D') β' v res ∧ ∀ q, Names res q → q < rout.length

section
variable {W : World} {D D' : Nat → Nat → Prop} {β β' : Nat → Option Nat}

theorem Rep.monoD (h : ∀ ρ b, D ρ b → D' ρ b) {v : Value} {x : AV} (hx : Rep W D β v x) : Rep W D' β v x :=
  hx.mv (ok := fun _ => True) ⟨fun ρ b hb => ⟨rfl, h ρ b hb⟩, Keeps.refl W, fun _ _ => rfl⟩ (fun _ _ => trivial)

theorem OslOk.ren {v : Value} {r r' w off len : Nat} (h : OslOk W β v r w off len) (hr : β' r' = β r) : OslOk W β' v r' w off len := by
  rcases h with ⟨h1, h2⟩ | ⟨g, cap, t, cur, h1, h2⟩
  · exact .inl ⟨hr.trans h1, h2⟩
  · exact .inr ⟨g, cap, t, cur, hr.trans h1, h2⟩

theorem Rep.ren0 {g : Nat → Nat} {v : Value} {x : AV} (h : Rep W D β v x) (hg : ∀ q, Names x q → β' (g q) = β q) : Rep W D β' v (x.ren0 g) := by
  cases h with
  | undef => exact .undef _
  | data _ _ hd =>
    cases hd <;> first | exact .undef _ | (refine .data _ _ ?_; constructor <;> assumption) | skip
  | osl _ r w off len ho => exact .osl _ _ _ _ _ (ho.ren (hg r (.osl ..)))
  | ptr r w i j q hq => exact .ptr _ _ _ _ q ((hg r (.ptr ..)).trans hq)
  | map r q hq => exact .map _ q ((hg r (.map ..)).trans hq)
  | fn => exact .undef _
  | agg => exact .undef _
  | tup => exact .undef _
  | gd => exact .undef _

theorem Rep.ren1 {g : Nat → Nat} {v : Value} {x : AV} (h : Rep W D β v x) (hg : ∀ q, Names x q → β' (g q) = β q) : Rep W D β' v (x.ren1 g) := by
  cases x
  case fn f caps =>
    cases h with
    | data _ _ hd =>
      cases hd with
      | fn _ vs _ u hl hu hr =>
        refine .fn f vs _ u (by simpa using hl) (fun i y hy => ?_) (fun i y hy => ?_)
        all_goals
          rw [List.getElem?_map, Option.map_eq_some_iff] at hy
          obtain ⟨c, hc, rfl⟩ := hy
        · exact hu i c hc
        · exact (Rep.data (β := β) _ _ (hr i c hc)).ren0 (fun q hq => absurd hq (hr i c hc).noNames)
    | fn _ vs _ u hl hu hr =>
      refine .fn f vs _ u (by simpa using hl) (fun i y hy => ?_) (fun i y hy => ?_)
      all_goals
        rw [List.getElem?_map, Option.map_eq_some_iff] at hy
        obtain ⟨c, hc, rfl⟩ := hy
      · exact hu i c hc
      · exact (hr i c hc).ren0 (fun q hq => hg q (.fn f caps c q (List.mem_of_getElem? hc) hq))
  all_goals exact Rep.ren0 (β' := β') (g := g) h hg

theorem Rep.ren2 {g : Nat → Nat} {v : Value} {x : AV} (h : Rep W D β v x) (hg : ∀ q, Names x q → β' (g q) = β q) : Rep W D β' v (x.ren2 g) := by
  cases x
  case agg cs =>
    cases h with
    | data _ _ hd => cases hd
    | agg vs _ u hl hu ho hr =>
      refine .agg vs _ u (by simpa using hl) (fun i y hy => ?_) (fun i y hy => ?_) (fun i y hy => ?_)
      all_goals
        rw [List.getElem?_map, Option.map_eq_some_iff] at hy
        obtain ⟨c, hc, rfl⟩ := hy
      · exact hu i c hc
      · exact ho i c hc
      · exact (hr i c hc).ren1 (fun q hq => hg q (.agg cs c q (List.mem_of_getElem? hc) hq))
  all_goals exact Rep.ren1 (β' := β') (g := g) h hg

theorem Rep.ren {g : Nat → Nat} {v : Value} {x : AV} (h : Rep W D β v x) (hg : ∀ q, Names x q → β' (g q) = β q) : Rep W D β' v (x.ren g) := by
  cases x
  case tup cs =>
    cases h with
    | data _ _ hd => cases hd
    | tup vs _ u hl hu hr =>
      refine .tup vs _ u (by simpa using hl) (fun i y hy => ?_) (fun i y hy => ?_)
      all_goals
        rw [List.getElem?_map, Option.map_eq_some_iff] at hy
        obtain ⟨c, hc, rfl⟩ := hy
      · exact hu i c hc
      · exact (hr i c hc).ren2 (fun q hq => hg q (.tup cs c q (List.mem_of_getElem? hc) hq))
  all_goals exact Rep.ren2 (β' := β') (g := g) h hg

theorem names_ren0 {g : Nat → Nat} {x : AV} {q : Nat} (h : Names (x.ren0 g) q) : ∃ p, Names x p ∧ q = g p := by
  cases x <;> simp only [AV.ren0] at h <;> cases h
  · exact ⟨_, .osl .., rfl⟩
  · exact ⟨_, .ptr .., rfl⟩
  · exact ⟨_, .map .., rfl⟩
theorem names_ren1 {g : Nat → Nat} {x : AV} {q : Nat} (h : Names (x.ren1 g) q) : ∃ p, Names x p ∧ q = g p := by
  cases x
  case fn f caps =>
    cases h with
    | fn _ _ y _ hy hq =>
      obtain ⟨c, hc, rfl⟩ := List.mem_map.1 hy
      obtain ⟨p, hp, rfl⟩ := names_ren0 hq
      exact ⟨p, .fn _ _ c _ hc hp, rfl⟩
  all_goals exact names_ren0 (g := g) h
theorem names_ren2 {g : Nat → Nat} {x : AV} {q : Nat} (h : Names (x.ren2 g) q) : ∃ p, Names x p ∧ q = g p := by
  cases x
  case agg caps =>
    cases h with
    | agg _ y _ hy hq =>
      obtain ⟨c, hc, rfl⟩ := List.mem_map.1 hy
      obtain ⟨p, hp, rfl⟩ := names_ren1 hq
      exact ⟨p, .agg _ c _ hc hp, rfl⟩
  all_goals exact names_ren1 (g := g) h
theorem names_ren {g : Nat → Nat} {x : AV} {q : Nat} (h : Names (x.ren g) q) : ∃ p, Names x p ∧ q = g p := by
  cases x
  case tup caps =>
    cases h with
    | tup _ y _ hy hq =>
      obtain ⟨c, hc, rfl⟩ := List.mem_map.1 hy
      obtain ⟨p, hp, rfl⟩ := names_ren2 hq
      exact ⟨p, .tup _ c _ hc hp, rfl⟩
  all_goals exact names_ren2 (g := g) h

theorem RootOk.ren {g : Nat → Nat} {k : Nat} {R : Root} (h : RootOk W D β k R) (hk : β' (g k) = β k) (hg : ∀ t cs y q, R = .box t cs → y ∈ cs → Names y q → β' (g q) = β q) : RootOk W D β' (g k) (R.ren g) := by
  cases R with
  | gone => trivial
  | row t w xs =>
    rcases h with ⟨h1, h2⟩ | ⟨b, cur, h1, h2⟩
    · exact .inl ⟨hk.trans h1, h2⟩
    · exact .inr ⟨b, cur, hk.trans h1, h2⟩
  | mp kv =>
    obtain ⟨b, es, clk, h1, h2⟩ := h
    exact ⟨b, es, clk, hk.trans h1, h2⟩
  | box t cs =>
    obtain ⟨b, cur, h1, h2, h3, h4⟩ := h
    refine ⟨b, cur, hk.trans h1, h2, by simpa using h3, fun j y hy => ?_⟩
    rw [List.getElem?_map, Option.map_eq_some_iff] at hy
    obtain ⟨c, hc, rfl⟩ := hy
    obtain ⟨u, u1, u2, u3⟩ := h4 j c hc
    exact ⟨u, u1, u2, u3.ren1 (fun q hq => hg t cs c q rfl (List.mem_of_getElem? hc) hq)⟩
theorem ren_gone {g : Nat → Nat} {R : Root} (h : R.ren g = .gone) : R = .gone := by cases R <;> simp [Root.ren] at h ⊢
theorem ren_box {g : Nat → Nat} {R : Root} {t : Nat} {cs : List AV} (h : R.ren g = .box t cs) : ∃ cs0, R = .box t cs0 ∧ cs = cs0.map (AV.ren1 g) := by
  cases R <;> simp [Root.ren] at h
  obtain ⟨rfl, rfl⟩ := h
  exact ⟨_, rfl, rfl⟩

theorem posOf_some {m : List Nat} {q k : Nat} (h : posOf m q = some k) : m[k]? = some q := by
  induction m generalizing k with
  | nil => cases h
  | cons x m ih =>
    simp only [posOf] at h
    split at h
    · rename_i hx; injection h with h; subst h; subst hx; rfl
    · rw [Option.map_eq_some_iff] at h
      obtain ⟨k', hk, rfl⟩ := h
      simpa using ih hk
theorem posOf_none {m : List Nat} {q : Nat} (h : posOf m q = none) : q ∉ m := by
  induction m with
  | nil => simp
  | cons x m ih =>
    simp only [posOf] at h
    split at h
    · cases h
    · rename_i hx
      rw [Option.map_eq_none_iff] at h
      simp only [List.mem_cons, not_or]
      exact ⟨fun e => hx e.symm, ih h⟩
theorem posOf_nodup {m : List Nat} (hm : m.Nodup) {k q : Nat} (h : m[k]? = some q) : posOf m q = some k := by
  induction m generalizing k with
  | nil => simp at h
  | cons x m ih =>
    rw [List.nodup_cons] at hm
    cases k with
    | zero => simp at h; subst h; simp [posOf]
    | succ k =>
      simp at h
      have hx : ¬ x = q := fun e => hm.1 (e ▸ List.mem_of_getElem? h)
      simp [posOf, hx, ih hm.2 h]

/-! ### What is handed over, and what is lent -/
/-- Everything that is not handed over is lent. -/
def lent (D : Nat → Nat → Prop) (β : Nat → Option Nat) (st : List Root) (pos : Nat → Option Nat) : Nat → Nat → Prop := fun ρ b => D ρ b ∨ (ρ = 0 ∧ ∃ r, Live st r ∧ pos r = none ∧ β r = some b)
def handβ (β : Nat → Option Nat) (m : List Nat) : Nat → Option Nat := fun k => (m[k]?).bind β

variable {st : List Root} {m : List Nat}

theorem cvD_ok {v : Value} {x : AV} (hs : ∀ r R, st[r]? = some R → RootOk W D β r R) (h : Rep W D β v x) (ho : v.oneCell' = true) (hc : (cvD st (posOf m) x).1) : RepD W (lent D β st (posOf m)) v (cvD st (posOf m) x).2 := by
  have up : ∀ ρ b, D ρ b → lent D β st (posOf m) ρ b := fun ρ b hb => .inl hb
  have hmv : Mv W W D (lent D β st (posOf m)) β β (fun _ => True) := ⟨fun ρ b hb => ⟨rfl, up ρ b hb⟩, Keeps.refl W, fun _ _ => rfl⟩
  cases x
  case osl r w off len =>
    simp only [cvD] at hc ⊢
    cases hp : posOf m r with
    | some k => exact .undef _ ho
    | none =>
      simp only [hp] at hc ⊢
      cases hr : st[r]? with
      | none => exact .undef _ ho
      | some R =>
        cases R with
        | row t w' xs =>
          simp only [hr] at hc ⊢
          obtain ⟨rfl, hl⟩ := hc
          exact osl_data (t := t) ((hs r _ hr).mv hmv rfl (fun _ _ => rfl) (fun _ _ _ _ _ _ _ => trivial)) (fun g hg => .inr ⟨rfl, r, ⟨_, hr, by simp⟩, hp, hg⟩) (h.mv hmv (fun _ _ => trivial)) hl
        | gone => exact .undef _ ho
        | box t cs => exact .undef _ ho
        | mp kv => exact .undef _ ho
  all_goals first
    | exact .undef _ ho
    | (cases h with
       | data _ _ hd => exact hd.mono (fun ρ b hb => ⟨rfl, up ρ b hb⟩)
       | undef => exact .undef _ ho)
    | (cases h with
       | data _ _ hd => exact hd.mono (fun ρ b hb => ⟨rfl, up ρ b hb⟩))

theorem handβ_pos {q k : Nat} (h : posOf m q = some k) : handβ β m k = β q := by simp [handβ, posOf_some h]

theorem cvD_leaf {v : Value} {x : AV} (hx : ∀ r w off len, x ≠ .osl r w off len) (h : Rep W D β v x) : Rep W (lent D β st (posOf m)) (handβ β m) v (cvD st (posOf m) x).2 := by
  have up : ∀ ρ b, D ρ b → lent D β st (posOf m) ρ b := fun ρ b hb => .inl hb
  cases x <;> first
    | exact absurd rfl (hx _ _ _ _)
    | exact .undef _
    | (cases h with
       | data _ _ hd => exact .data _ _ (hd.mono (fun ρ b hb => ⟨rfl, up ρ b hb⟩))
       | undef => exact .undef _)
    | (cases h with
       | data _ _ hd => exact .data _ _ (hd.mono (fun ρ b hb => ⟨rfl, up ρ b hb⟩)))

theorem cv0_ok {v : Value} {x : AV} (hs : ∀ r R, st[r]? = some R → RootOk W D β r R) (h : Rep W D β v x) (hc : (cv0 st (posOf m) x).1) : Rep W (lent D β st (posOf m)) (handβ β m) v (cv0 st (posOf m) x).2 := by
  have up : ∀ ρ b, D ρ b → lent D β st (posOf m) ρ b := fun ρ b hb => .inl hb
  have hmv : Mv W W D (lent D β st (posOf m)) β β (fun _ => True) := ⟨fun ρ b hb => ⟨rfl, up ρ b hb⟩, Keeps.refl W, fun _ _ => rfl⟩
  cases x
  case osl r w off len =>
    simp only [cv0] at hc ⊢
    cases hp : posOf m r with
    | some k =>
      simp only [hp] at hc ⊢
      cases h with
      | data _ _ hd => cases hd
      | osl _ _ _ _ _ ho => exact .osl _ _ _ _ _ (ho.ren (handβ_pos hp))
    | none =>
      simp only [hp] at hc ⊢
      have ho : v.oneCell' = true := h.oneCell rfl
      exact .data _ _ (cvD_ok hs h ho hc)
  case ptr r w i j =>
    simp only [cv0] at hc ⊢
    cases hp : posOf m r with
    | some k =>
      cases h with
      | data _ _ hd => cases hd
      | ptr _ _ _ _ g hg => exact .ptr _ _ _ _ g ((handβ_pos hp).trans hg)
    | none =>
      simp only [hp] at hc ⊢
      cases hr : st[r]? with
      | none => exact .undef _
      | some R =>
        cases R with
        | gone => exact .undef _
        | mp kv => exact .undef _
        | box t cs =>
          simp only [hr] at hc ⊢
          obtain ⟨rfl, hc⟩ := hc
          obtain ⟨g, off, rfl, hb⟩ := behind_ok (st := st) hs h (by simp [behind, hr])
          simp only [behind, hr] at hb
          obtain ⟨g', cur, h1, h2, _⟩ := hs r _ hr
          have hgg : g = g' := by
            cases h with
            | data _ _ hd => cases hd
            | ptr _ _ _ _ g0 hg0 => rw [h1] at hg0; injection hg0 with hg0; exact hg0.symm
          subst hgg
          refine .data _ _ (.dptr _ 0 _ (fun k => (W.cell? ⟨g, off + k, none⟩).getD undef) rfl (.inr ⟨rfl, r, ⟨_, hr, by simp⟩, hp, h1⟩) (fun k y hy => ?_) (fun k y hy => ?_))
          all_goals
            rw [List.getElem?_map, Option.map_eq_some_iff] at hy
            obtain ⟨c, hc1, rfl⟩ := hy
            obtain ⟨u, u1, u2, u3⟩ := hb k c hc1
          · simp [u1]
          · simp only [u1, Option.getD_some]
            exact cvD_ok hs u3 u2 (hc c (List.mem_of_getElem? hc1))
        | row t w' xs =>
          simp only [hr] at hc ⊢
          obtain ⟨rfl, hi⟩ := hc
          rcases hs r _ hr with ⟨_, rfl⟩ | ⟨g, cur, h1, h2, h3⟩
          · simp at hi
          cases h with
          | data _ _ hd => cases hd
          | ptr _ _ _ _ g0 hg0 =>
            rw [h1] at hg0; injection hg0 with hg0; subst hg0
            obtain ⟨k1, k2⟩ := h3 i _ (nth_some hi)
            refine .data _ _ (.dptr _ 0 _ (fun k => (cur[i * w + (j + k)]?).getD undef) rfl (.inr ⟨rfl, r, ⟨_, hr, by simp⟩, hp, h1⟩) (fun k y hy => ?_) (fun k y hy => ?_))
            all_goals
              rw [List.getElem?_drop] at hy
              obtain ⟨u, u1, u2⟩ := k2 _ y hy
            · rw [cell_of_row W g _ cur t (0, 0) h2, Nat.add_assoc, u1]; rfl
            · simp only [u1, Option.getD_some]
              exact u2.mono (fun ρ b hb => ⟨rfl, up ρ b hb⟩)
  case map r =>
    simp only [cv0] at hc ⊢
    cases hp : posOf m r with
    | some k =>
      cases h with
      | data _ _ hd => cases hd
      | map _ g hg => exact .map _ g ((handβ_pos hp).trans hg)
    | none => exact .undef _
  all_goals
    refine cvD_leaf ?_ h
    intro _ _ _ _ e
    cases e

theorem cv1_ok {v : Value} {x : AV} (hs : ∀ r R, st[r]? = some R → RootOk W D β r R) (h : Rep W D β v x) (hc : (cv1 st (posOf m) x).1) : Rep W (lent D β st (posOf m)) (handβ β m) v (cv1 st (posOf m) x).2 := by
  cases x
  case fn f caps =>
    simp only [cv1] at hc ⊢
    have go : ∀ (vs : Array Value) (u : Nat → Value), vs.size = caps.length → (∀ (i : Nat) (y : AV), caps[i]? = some y → vs[i]? = some (u i)) → (∀ (i : Nat) (y : AV), caps[i]? = some y → Rep W D β (u i) y) → Rep W (lent D β st (posOf m)) (handβ β m) (.func (.func f) #[] vs) (.fn f (caps.map fun c => (cv0 st (posOf m) c).2)) := by
      intro vs u hl hu hr
      refine .fn f vs _ u (by simpa using hl) (fun i y hy => ?_) (fun i y hy => ?_)
      all_goals
        rw [List.getElem?_map, Option.map_eq_some_iff] at hy
        obtain ⟨c, hc1, rfl⟩ := hy
      · exact hu i c hc1
      · exact cv0_ok hs (hr i c hc1) (hc c (List.mem_of_getElem? hc1))
    cases h with
    | data _ _ hd => cases hd with | fn _ vs _ u hl hu hr => exact go vs u hl hu (fun i y hy => .data _ _ (hr i y hy))
    | fn _ vs _ u hl hu hr => exact go vs u hl hu hr
  all_goals exact cv0_ok hs h hc

theorem cv_ok {v : Value} {x : AV} (hs : ∀ r R, st[r]? = some R → RootOk W D β r R) (h : Rep W D β v x) (hc : (cv st (posOf m) x).1) : Rep W (lent D β st (posOf m)) (handβ β m) v (cv st (posOf m) x).2 := by
  cases x
  case agg cs =>
    simp only [cv] at hc ⊢
    cases h with
    | data _ _ hd => cases hd
    | agg vs _ u hl hu ho hr =>
      refine .agg vs _ u (by simpa using hl) (fun i y hy => ?_) (fun i y hy => ?_) (fun i y hy => ?_)
      all_goals
        rw [List.getElem?_map, Option.map_eq_some_iff] at hy
        obtain ⟨c, hc1, rfl⟩ := hy
      · exact hu i c hc1
      · exact ho i c hc1
      · exact cv1_ok hs (hr i c hc1) (hc c (List.mem_of_getElem? hc1))
  all_goals exact cv1_ok hs h hc

/-- What an argument names was handed over. -/
theorem cvD_names {x : AV} {q : Nat} : ¬ Names (cvD st (posOf m) x).2 q := by
  intro h
  unfold cvD at h
  split at h
  · split at h
    · cases h
    · split at h <;> cases h
  all_goals first
    | (cases h; done)
    | skip
  rename_i h1 h2 h3 h4 h5 h6 h7
  cases x <;> first
    | (cases h; done)
    | exact (h1 _ _ _ _ rfl).elim
    | exact (h2 _ _ _ _ rfl).elim
    | exact (h3 _ rfl).elim
    | exact (h4 _ _ rfl).elim
    | exact (h5 _ rfl).elim
    | exact (h6 _ rfl).elim
    | exact (h7 _ _ rfl).elim
theorem posOf_lt {q k : Nat} (h : posOf m q = some k) : k < m.length := (List.getElem?_eq_some_iff.1 (posOf_some h)).1
theorem cv0_names {x : AV} {q : Nat} (h : Names (cv0 st (posOf m) x).2 q) : q < m.length := by
  cases x <;> simp only [cv0] at h
  case osl r w off len =>
    cases hp : posOf m r with
    | some k => simp only [hp] at h; cases h; exact posOf_lt hp
    | none => simp only [hp] at h; exact absurd h cvD_names
  case ptr r w i j =>
    cases hp : posOf m r with
    | some k => simp only [hp] at h; cases h; exact posOf_lt hp
    | none =>
      simp only [hp] at h
      split at h <;> cases h
  case map r =>
    cases hp : posOf m r with
    | some k => simp only [hp] at h; cases h; exact posOf_lt hp
    | none => simp only [hp] at h; cases h
  all_goals exact absurd h cvD_names
theorem cv1_names {x : AV} {q : Nat} (h : Names (cv1 st (posOf m) x).2 q) : q < m.length := by
  cases x
  case fn f caps =>
    cases h with
    | fn _ _ y _ hy hq => obtain ⟨c, _, rfl⟩ := List.mem_map.1 hy; exact cv0_names hq
  all_goals exact cv0_names h
theorem cv_names {x : AV} {q : Nat} (h : Names (cv st (posOf m) x).2 q) : q < m.length := by
  cases x
  case agg cs =>
    cases h with
    | agg _ y _ hy hq => obtain ⟨c, _, rfl⟩ := List.mem_map.1 hy; exact cv1_names hq
  all_goals exact cv1_names h
end
end Go.Ve
