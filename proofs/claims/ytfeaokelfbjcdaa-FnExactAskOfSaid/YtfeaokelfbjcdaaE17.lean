/- The engine, part 17: environments seen anew, loops, function bodies. No condition. -/
import Derived.Test.YtfeaokelfbjcdaaE16
namespace Go.Ve
open Go.RowKit
set_option linter.unusedVariables false
set_option linter.unusedSimpArgs false

/-! ### An environment seen as another -/
def Sub (k : Nat) (e e' : Env) : Prop := ∀ (C : Ctx) (sz : Nat) (a : Act) (W : World) (D : Nat → Nat → Prop) (β : Nat → Option Nat), C.k ≤ k → St C sz e a W D β → ∃ D' β', St C sz e' a W D' β'
theorem Sub.refl (k : Nat) (e : Env) : Sub k e e := fun _ _ _ _ D β _ h => ⟨D, β, h⟩
theorem Sub.trans {k : Nat} {a b c : Env} (h : Sub k a b) (h' : Sub k b c) : Sub k a c := fun C sz A W D β hk hs =>
  let ⟨D', β', h1⟩ := h C sz A W D β hk hs; h' C sz A W D' β' hk h1

def AV.rnp2 (pos : Nat → Option Nat) : AV → AV
  | .agg cs => .agg (cs.map (AV.rnp1 pos))
  | x => x.rnp1 pos
def AV.rnp (pos : Nat → Option Nat) : AV → AV
  | .tup cs => .tup (cs.map (AV.rnp2 pos))
  | x => x.rnp2 pos

section
variable {W : World} {D D' : Nat → Nat → Prop} {β : Nat → Option Nat} {m : List Nat}
theorem rnp2_ok {v : Value} {x : AV} (hD : ∀ ρ b, D ρ b → D' ρ b) (h : Rep W D β v x) : Rep W D' (handβ β m) v (x.rnp2 (posOf m)) := by
  cases x
  case agg cs =>
    cases h with
    | data _ _ hd => cases hd
    | agg vs _ u hl hu ho hr =>
      refine .agg vs _ u (by simpa using hl) (fun i y hy => ?_) (fun i y hy => ?_) (fun i y hy => ?_)
      all_goals
        rw [List.getElem?_map, Option.map_eq_some_iff] at hy
        obtain ⟨c, hc1, rfl⟩ := hy
      · exact hu i c hc1
      · exact ho i c hc1
      · exact rnp1_ok hD (hr i c hc1)
  all_goals exact rnp1_ok hD h
theorem rnp_ok {v : Value} {x : AV} (hD : ∀ ρ b, D ρ b → D' ρ b) (h : Rep W D β v x) : Rep W D' (handβ β m) v (x.rnp (posOf m)) := by
  cases x
  case tup cs =>
    cases h with
    | data _ _ hd => cases hd
    | tup vs _ u hl hu hr =>
      refine .tup vs _ u (by simpa using hl) (fun i y hy => ?_) (fun i y hy => ?_)
      all_goals
        rw [List.getElem?_map, Option.map_eq_some_iff] at hy
        obtain ⟨c, hc1, rfl⟩ := hy
      · exact hu i c hc1
      · exact rnp2_ok hD (hr i c hc1)
  all_goals exact rnp2_ok hD h
theorem rnp2_names {x : AV} {q : Nat} (h : Names (x.rnp2 (posOf m)) q) : q < m.length := by
  by_cases hx : ∃ cs, x = .agg cs
  · obtain ⟨cs, rfl⟩ := hx
    cases h with
    | agg _ y _ hy hq => obtain ⟨c, _, rfl⟩ := List.mem_map.1 hy; exact rnp1_names hq
  · have e : x.rnp2 (posOf m) = x.rnp1 (posOf m) := by
      cases x <;> first | rfl | exact absurd ⟨_, rfl⟩ hx
    rw [e] at h
    exact rnp1_names h
theorem rnp_names {x : AV} {q : Nat} (h : Names (x.rnp (posOf m)) q) : q < m.length := by
  by_cases hx : ∃ cs, x = .tup cs
  · obtain ⟨cs, rfl⟩ := hx
    cases h with
    | tup _ y _ hy hq => obtain ⟨c, _, rfl⟩ := List.mem_map.1 hy; exact rnp2_names hq
  · have e : x.rnp (posOf m) = x.rnp2 (posOf m) := by
      cases x <;> first | rfl | exact absurd ⟨_, rfl⟩ hx
    rw [e] at h
    exact rnp2_names h
end

/-- Roots kept in the order of ρ, all others dropped; of the values those that are told. -/
def SubR (k : Nat) (ρ : List Nat) (e e' : Env) : Prop :=
  ρ.Nodup ∧ (∀ p < k, ρ[p]? = some p) ∧ (∀ r ∈ ρ, r < e.st.length) ∧ e'.st = rinOf e.st ρ ∧ ∀ p ∈ e'.tm, p.2 = (tv e.tm p.1).rnp (posOf ρ)
/-- The roots as they are; of the values those that are told. -/
def SubI (e e' : Env) : Prop := e'.st = e.st ∧ ∀ p ∈ e'.tm, p.2 = tv e.tm p.1

section
variable {C : Ctx} {sz : Nat} {a : Act} {W : World} {D : Nat → Nat → Prop} {β : Nat → Option Nat}
theorem tv_sub {l : List (Nat × AV)} (f : Nat → AV) (h : ∀ p ∈ l, p.2 = f p.1) (i : Nat) : tv l i = .undef ∨ tv l i = f i := by
  induction l with
  | nil => exact .inl rfl
  | cons p l ih =>
    obtain ⟨j, v⟩ := p
    simp only [tv]
    split
    · rename_i hj
      subst hj
      exact .inr (h _ (List.mem_cons_self ..))
    · exact ih fun q hq => h q (List.mem_cons_of_mem _ hq)

theorem SubI.sub {k : Nat} {e e' : Env} (h : SubI e e') : Sub k e e' := by
  intro C sz a W D β _ hs
  obtain ⟨tm', st'⟩ := e'
  obtain ⟨rfl, h2⟩ := h
  refine ⟨D, β, hs.mem, fun i => ?_, fun i q hq => ?_, hs.bx, hs.dd, hs.sz⟩
  · rcases tv_sub _ h2 i with h0 | h0 <;> simp only [h0]
    · exact .undef _
    · exact hs.tm i
  · rcases tv_sub _ h2 i with h0 | h0 <;> simp only [h0] at hq
    · cases hq
    · exact hs.nm i q hq

/-- The roots of an environment in the order of ρ. -/
theorem MemOk.rin {st : List Root} {ρ : List Nat} (h : MemOk C W D β st) (hn : ρ.Nodup) (hk : ∀ p < C.k, ρ[p]? = some p) (hl : ∀ r ∈ ρ, r < st.length) : MemOk C W D (handβ β ρ) (rinOf st ρ) := by
  have live : ∀ {q g}, Live (rinOf st ρ) q → handβ β ρ q = some g → ∃ p, ρ[q]? = some p ∧ Live st p ∧ β p = some g := by
    intro q g h1 h2
    obtain ⟨p, p1, p2⟩ := rinOf_live h1
    exact ⟨p, p1, p2, by simpa [handβ, p1] using h2⟩
  refine ⟨⟨fun q R hq => ?_, fun q q' g h1 h2 h3 h4 => ?_, fun q g ρ' h1 h2 => ?_⟩, h.os, h.tape, h.output, h.size, h.frame, h.keeps, h.dup, h.dfix, h.dnew, h.thaw, fun q g h1 h2 => ?_, h.lt, h.sep, fun r hr => ?_, ?_⟩
  · obtain ⟨p, hp, rfl⟩ := rinOf_get hq
    have hqb : handβ β ρ q = β p := by simp [handβ, hp]
    have hpl := hl p (List.mem_of_getElem? hp)
    rw [List.getD_eq_getElem?_getD, List.getElem?_eq_getElem hpl, Option.getD_some]
    have hR := h.store.root p _ (List.getElem?_eq_getElem hpl)
    generalize st[p] = R0 at hR
    cases R0 with
    | gone => trivial
    | row t w xs =>
      rcases hR with ⟨k1, k2⟩ | ⟨g, cur, k1, k2, k3⟩
      · exact .inl ⟨hqb.trans k1, k2⟩
      · exact .inr ⟨g, cur, hqb.trans k1, k2, k3⟩
    | mp kv =>
      obtain ⟨g, es, clk, k1, k2, k3, k4⟩ := hR
      exact ⟨g, es, clk, hqb.trans k1, k2, k3, k4⟩
    | box t cs =>
      obtain ⟨g, cur, k1, k2, k3, k4⟩ := hR
      refine ⟨g, cur, hqb.trans k1, k2, by simpa using k3, fun j y hy => ?_⟩
      rw [List.getElem?_map, Option.map_eq_some_iff] at hy
      obtain ⟨c, hc, rfl⟩ := hy
      obtain ⟨u, u1, u2, u3⟩ := k4 j c hc
      exact ⟨u, u1, u2, rnp1_ok (fun _ _ h => h) u3⟩
  · obtain ⟨p, p1, p2, p3⟩ := live h1 h3
    obtain ⟨p', p1', p2', p3'⟩ := live h2 h4
    have := h.store.inj p p' g p2 p2' p3 p3'
    subst this
    have := posOf_nodup hn p1
    rw [posOf_nodup hn p1'] at this
    injection this with this
    exact this.symm
  · obtain ⟨p, p1, p2, p3⟩ := live h1 h2
    exact h.store.far p g ρ' p2 p3
  · obtain ⟨p, p1, p2, p3⟩ := live h1 h2
    exact h.own p g p2 p3
  · simp only [handβ, hk r hr, Option.bind_some]
    exact h.hand r hr
  · simp only [rinOf, List.length_map]
    rcases Nat.lt_or_ge ρ.length C.k with h1 | h1
    · have := hk ρ.length h1
      simp at this
    · exact h1

theorem SubR.sub {k : Nat} {ρ : List Nat} {e e' : Env} (h : SubR k ρ e e') : Sub k e e' := by
  intro C sz a W D β hk hs
  obtain ⟨tm', st'⟩ := e'
  obtain ⟨h1, h2, h3, rfl, h5⟩ := h
  refine ⟨D, handβ β ρ, hs.mem.rin h1 (fun p hp => h2 p (Nat.lt_of_lt_of_le hp hk)) h3, fun i => ?_, fun i q hq => ?_, fun r t cs y q hr hy hq => ?_, hs.dd, hs.sz⟩
  · rcases tv_sub (fun i => (tv e.tm i).rnp (posOf ρ)) h5 i with h0 | h0 <;> simp only [h0]
    · exact .undef _
    · exact rnp_ok (fun _ _ h => h) (hs.tm i)
  · rcases tv_sub (fun i => (tv e.tm i).rnp (posOf ρ)) h5 i with h0 | h0 <;> simp only [h0] at hq
    · cases hq
    · simpa [rinOf] using rnp_names hq
  · obtain ⟨p, _, hR⟩ := rinOf_get hr
    generalize e.st.getD p .gone = R0 at hR
    cases R0 <;> simp [Root.rnp] at hR
    obtain ⟨_, rfl⟩ := hR
    obtain ⟨c, _, rfl⟩ := List.mem_map.1 hy
    simpa [rinOf] using rnp1_names hq
end

/-- A variable that is a nil slice becomes a row of its own, with nothing in it. -/
def vivT (e : Env) (x : Nat × Nat × Nat) : Env :=
  match tv e.tm x.1 with
  | .nils => ⟨(x.1, .osl e.st.length x.2.2 0 0) :: e.tm, e.st ++ [.row x.2.1 x.2.2 []]⟩
  | _ => e
def vivs (viv : List (Nat × Nat × Nat)) (e : Env) : Env := viv.foldl vivT e
theorem vivT_sub {k : Nat} (e : Env) (x : Nat × Nat × Nat) : Sub k e (vivT e x) := by
  intro C sz a W D β hk hs
  unfold vivT
  split
  · rename_i hx
    obtain ⟨β', h1, h2, h3⟩ := hs.virt x.2.1 x.2.2
    have hv : a.tmps.getD x.1 undef = .slice none 0 0 := rep_nils (by rw [← hx]; exact hs.tm x.1)
    refine ⟨D, β', h2.mem, fun i => ?_, fun i q hq => ?_, h2.bx, h2.dd, h2.sz⟩
    · simp only [tv]
      split
      · rename_i hi; subst hi; rw [hv]; exact h3
      · exact h2.tm i
    · simp only [tv] at hq
      split at hq
      · cases hq; simp
      · exact h2.nm i q hq
  · exact ⟨D, β, hs⟩
theorem vivs_sub {k : Nat} : ∀ (viv : List (Nat × Nat × Nat)) (e : Env), Sub k e (vivs viv e)
  | [], e => Sub.refl k e
  | x :: viv, e => (vivT_sub e x).trans (vivs_sub viv _)

def rootOf : AV → Nat
  | .osl r _ _ _ => r
  | .ptr r _ _ _ => r
  | .map r => r
  | _ => 0
/-- Seen anew: nil slices become rows, the roots are those that the values of the temporaries in 'anch' name. -/
def SubE (k : Nat) (viv : List (Nat × Nat × Nat)) (anch : List Nat) (e e' : Env) : Prop := SubR k (anch.map fun t => rootOf (tv (vivs viv e).tm t)) (vivs viv e) e'
theorem SubE.sub {k : Nat} {viv : List (Nat × Nat × Nat)} {anch : List Nat} {e e' : Env} (h : SubE k viv anch e e') : Sub k e e' := (vivs_sub viv e).trans (SubR.sub h)

section
variable {P : Program} {n k : Nat} {T : List (Nat × Fsem)}

theorem least {p : Nat → Prop} (h : ∃ n, p n) : ∃ n, p n ∧ ∀ m, p m → n ≤ m := by
  obtain ⟨n, hn⟩ := h
  induction n using Nat.strongRecOn with
  | _ n ih =>
    by_cases hex : ∃ m, m < n ∧ p m
    · obtain ⟨m, h1, h2⟩ := hex
      exact ih m h1 h2
    · exact ⟨n, hn, fun m hm => Nat.le_of_not_lt fun hlt => hex ⟨m, hlt, hm⟩⟩

theorem VW_sub {s : SCode} {Q : Exit → Env → Prop} {e e' : Env} (h : Sub k e e') (hv : VW P n k T s Q e') : VW P n k T s Q e := by
  intro c C sz a W D β hs ho h0 hn hk hst
  obtain ⟨D', β', h'⟩ := h C sz a W D β hk hst
  exact hv c C sz a W D' β' hs ho h0 hn hk h'

/-- A loop: at its head the environment is that of a state; every round ends at a smaller one. -/
theorem VW_loop (hT : Table P T) (h2 : 2 ≤ n) (hm : P.follows .mixedOrders = true) {a : SCode} {Q : Exit → Env → Prop} {e : Env} {σ : Type} (I : σ → Env) (ok : σ → Prop) (μ : σ → Nat) (s0 : σ) (h0 : ok s0) (he : Sub k e (I s0))
    (L : σ → Env → Prop) (hL : ∀ s e', L s e' → ∃ s', μ s' < μ s ∧ ok s' ∧ Sub k e' (I s')) (step : ∀ s, ok s → vc P n k T a (thenQ (L s) Q) (I s)) : VW P n k T (.loop a) Q e := by
  refine VW_sub he ?_
  intro c C sz A W D β hs ho hn0 hn hk hst
  cases c
  case region id ops draw =>
    rcases slim_region hs with ⟨rfl, e0⟩ | ⟨rfl, e0⟩
    · cases e0
    · cases e0
  all_goals simp only [slim] at hs
  all_goals try cases hs
  any_goals (split at hs <;> cases hs)
  rename_i c _ hs
  simp only [okC] at ho
  let J : Act → World → Prop := fun A W => ∃ s D β, ok s ∧ St C sz (I s) A W D β
  let p : Act → World → Nat → Prop := fun A W m => ∃ s D β, ok s ∧ St C sz (I s) A W D β ∧ μ s = m
  have hp : ∀ A W, J A W → ∃ m, p A W m := fun A W ⟨s, D, β, h1, h2⟩ => ⟨μ s, s, D, β, h1, h2, rfl⟩
  classical
  let μ' : Act → World → Nat := fun A W => if h : J A W then Classical.choose (least (hp A W h)) else 0
  refine wp_loop J μ' ⟨s0, D, β, h0, hst⟩ fun A W hJ => ?_
  have hμ : μ' A W = Classical.choose (least (hp A W hJ)) := by simp only [μ']; rw [dif_pos hJ]
  obtain ⟨⟨s, D1, β1, k1, k2, k3⟩, _⟩ := Classical.choose_spec (least (hp A W hJ))
  refine wp_mono (vc_ok hT h2 hm a _ _ (step s k1) c C sz A W D1 β1 hs ho hn0 hn hk k2) ?_
  rintro x A' W' ⟨e', D2, β2, q1, q2⟩
  cases x <;> try exact ⟨e', D2, β2, q1, q2⟩
  obtain ⟨s', m1, m2, m3⟩ := hL s e' q1
  obtain ⟨D3, β3, q3⟩ := m3 C sz A' W' D2 β2 hk q2
  have hJ' : J A' W' := ⟨s', D3, β3, m2, q3⟩
  refine ⟨hJ', ?_⟩
  have hμ' : μ' A' W' = Classical.choose (least (hp A' W' hJ')) := by simp only [μ']; rw [dif_pos hJ']
  have hle := (Classical.choose_spec (least (hp A' W' hJ'))).2 (μ s') ⟨s', D3, β3, m2, q3, rfl⟩
  rw [hμ, hμ', ← k3]
  exact Nat.lt_of_le_of_lt hle m1
end
end Go.Ve
