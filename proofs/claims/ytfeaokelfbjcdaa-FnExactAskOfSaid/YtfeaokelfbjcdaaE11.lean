/- The engine, part 11: a call, over a state. No condition. -/
import Derived.Test.YtfeaokelfbjcdaaE10
namespace Go.Ve
open Go.RowKit
set_option linter.unusedVariables false
set_option linter.unusedSimpArgs false

def Root.rnp (pos : Nat → Option Nat) : Root → Root
  | .box t cs => .box t (cs.map (AV.rnp1 pos))
  | R => R
/-- The roots handed over, as the callee sees them. -/
def rinOf (st : List Root) (m : List Nat) : List Root := m.map fun r => (st.getD r .gone).rnp (posOf m)
/-- The callee's names of roots, as the caller's. -/
def gmap (m : List Nat) (L k : Nat) : Nat :=
  match m[k]? with
  | some q => q
  | none => L + (k - m.length)
def putAll (st : List Root) (m : List Nat) (rout : List Root) (g : Nat → Nat) (k : Nat) : List Root :=
  match m with
  | [] => st
  | r :: m => putAll (st.set r ((rout.getD k .gone).ren g)) m rout g (k + 1)
def stOf (st : List Root) (m : List Nat) (rout : List Root) : List Root := putAll st m rout (gmap m st.length) 0 ++ (rout.drop m.length).map (Root.ren (gmap m st.length))

theorem putAll_length (m : List Nat) : ∀ (st : List Root) (rout : List Root) (g : Nat → Nat) (k : Nat), (putAll st m rout g k).length = st.length := by
  induction m with
  | nil => intros; rfl
  | cons r m ih => intro st rout g k; simp only [putAll]; rw [ih]; simp
theorem putAll_get (m : List Nat) : ∀ (st : List Root) (rout : List Root) (g : Nat → Nat) (k q : Nat), m.Nodup → (∀ r ∈ m, r < st.length) →
    (putAll st m rout g k)[q]? = match posOf m q with | some j => some ((rout.getD (k + j) .gone).ren g) | none => st[q]? := by
  induction m with
  | nil => intros; rfl
  | cons r m ih =>
    intro st rout g k q hn hl
    rw [List.nodup_cons] at hn
    simp only [putAll, posOf]
    rw [ih _ _ _ _ _ hn.2 (fun x hx => by simpa using hl x (List.mem_cons_of_mem _ hx))]
    by_cases hq : r = q
    · subst hq
      have hnone : posOf m r = none := by
        cases hp : posOf m r with
        | none => rfl
        | some j => exact absurd (List.mem_of_getElem? (posOf_some hp)) hn.1
      simp only [hnone, if_true, Nat.add_zero]
      rw [List.getElem?_set_self (hl r (List.mem_cons_self ..))]
    · simp only [if_neg hq]
      cases hp : posOf m q with
      | none => simp only [Option.map_none]; rw [List.getElem?_set_ne hq]
      | some j => simp only [Option.map_some]; congr 3; omega

section
variable {W : World} {D D' : Nat → Nat → Prop} {β β' : Nat → Option Nat} {st : List Root} {m : List Nat}

theorem rnp0_ok {v : Value} {x : AV} (hD : ∀ ρ b, D ρ b → D' ρ b) (h : Rep W D β v x) : Rep W D' (handβ β m) v (x.rnp0 (posOf m)) := by
  cases x
  case osl r w off len =>
    simp only [AV.rnp0]
    cases hp : posOf m r with
    | none => exact .undef _
    | some k =>
      cases h with
      | data _ _ hd => cases hd
      | osl _ _ _ _ _ ho => exact .osl _ _ _ _ _ (ho.ren (handβ_pos hp))
  case ptr r w i j =>
    simp only [AV.rnp0]
    cases hp : posOf m r with
    | none => exact .undef _
    | some k =>
      cases h with
      | data _ _ hd => cases hd
      | ptr _ _ _ _ g hg => exact .ptr _ _ _ _ g ((handβ_pos hp).trans hg)
  case map r =>
    simp only [AV.rnp0]
    cases hp : posOf m r with
    | none => exact .undef _
    | some k =>
      cases h with
      | data _ _ hd => cases hd
      | map _ g hg => exact .map _ g ((handβ_pos hp).trans hg)
  all_goals first
    | exact .undef _
    | (cases h with
       | data _ _ hd => exact .data _ _ (hd.mono (fun ρ b hb => ⟨rfl, hD ρ b hb⟩))
       | undef => exact .undef _)
    | (cases h with
       | data _ _ hd => exact .data _ _ (hd.mono (fun ρ b hb => ⟨rfl, hD ρ b hb⟩)))
theorem rnp1_ok {v : Value} {x : AV} (hD : ∀ ρ b, D ρ b → D' ρ b) (h : Rep W D β v x) : Rep W D' (handβ β m) v (x.rnp1 (posOf m)) := by
  cases x
  case fn f caps =>
    have go : ∀ (vs : Array Value) (u : Nat → Value), vs.size = caps.length → (∀ (i : Nat) (y : AV), caps[i]? = some y → vs[i]? = some (u i)) → (∀ (i : Nat) (y : AV), caps[i]? = some y → Rep W D β (u i) y) → Rep W D' (handβ β m) (.func (.func f) #[] vs) (.fn f (caps.map (AV.rnp0 (posOf m)))) := by
      intro vs u hl hu hr
      refine .fn f vs _ u (by simpa using hl) (fun i y hy => ?_) (fun i y hy => ?_)
      all_goals
        rw [List.getElem?_map, Option.map_eq_some_iff] at hy
        obtain ⟨c, hc1, rfl⟩ := hy
      · exact hu i c hc1
      · exact rnp0_ok hD (hr i c hc1)
    cases h with
    | data _ _ hd => cases hd with | fn _ vs _ u hl hu hr => exact go vs u hl hu (fun i y hy => .data _ _ (hr i y hy))
    | fn _ vs _ u hl hu hr => exact go vs u hl hu hr
  all_goals exact rnp0_ok hD h
theorem rnp0_names {x : AV} {q : Nat} (h : Names (x.rnp0 (posOf m)) q) : q < m.length := by
  cases x <;> simp only [AV.rnp0] at h
  case osl r w off len =>
    cases hp : posOf m r with
    | some k => simp only [hp] at h; cases h; exact posOf_lt hp
    | none => simp only [hp] at h; cases h
  case ptr r w i j =>
    cases hp : posOf m r with
    | some k => simp only [hp] at h; cases h; exact posOf_lt hp
    | none => simp only [hp] at h; cases h
  case map r =>
    cases hp : posOf m r with
    | some k => simp only [hp] at h; cases h; exact posOf_lt hp
    | none => simp only [hp] at h; cases h
  all_goals cases h
theorem rnp1_names {x : AV} {q : Nat} (h : Names (x.rnp1 (posOf m)) q) : q < m.length := by
  by_cases hx : ∃ f caps, x = .fn f caps
  · obtain ⟨f, caps, rfl⟩ := hx
    cases h with
    | fn _ _ y _ hy hq => obtain ⟨c, _, rfl⟩ := List.mem_map.1 hy; exact rnp0_names hq
  · have e : x.rnp1 (posOf m) = x.rnp0 (posOf m) := by
      cases x <;> first | rfl | exact absurd ⟨_, _, rfl⟩ hx
    rw [e] at h
    exact rnp0_names h

theorem rinOf_get {k : Nat} {R : Root} (h : (rinOf st m)[k]? = some R) : ∃ q, m[k]? = some q ∧ R = (st.getD q .gone).rnp (posOf m) := by
  simp only [rinOf, List.getElem?_map, Option.map_eq_some_iff] at h
  obtain ⟨q, h1, h2⟩ := h
  exact ⟨q, h1, h2.symm⟩
theorem rinOf_live {k : Nat} (h : Live (rinOf st m) k) : ∃ q, m[k]? = some q ∧ Live st q := by
  obtain ⟨R, h1, h2⟩ := h
  obtain ⟨q, h3, rfl⟩ := rinOf_get h1
  refine ⟨q, h3, ?_⟩
  rw [List.getD_eq_getElem?_getD] at h2
  cases hq : st[q]? with
  | none => simp [hq, Root.rnp] at h2
  | some R0 =>
    refine ⟨R0, hq, fun e => ?_⟩
    subst e
    simp [hq, Root.rnp] at h2
end

section
variable {P : Program} {C : Ctx} {sz : Nat} {e : Env} {a : Act} {W : World} {D : Nat → Nat → Prop} {β : Nat → Option Nat}

theorem St.call (h : St C sz e a W D β) {n : Nat} {f : FuncId} {m : List Nat} {sargs : List AV} {rout : List Root} {res : AV} {vs : List Value} (hC : C.n ≠ 0) (hn : C.n ≤ n) (hm : m.Nodup) (hml : ∀ r ∈ m, r < e.st.length)
    (hs : SatM P n f (rinOf e.st m) sargs rout res) (hlen : vs.length = sargs.length)
    (hargs : ∀ (i : Nat) (x : AV), sargs[i]? = some x → ∃ v, vs[i]? = some v ∧ Rep W (lent D β e.st (posOf m)) (handβ β m) v x ∧ ∀ q, Names x q → q < m.length) :
    Calls P f vs.toArray W fun e' W' => ∃ v D' β', e' = .returned v ∧ St C sz ⟨e.tm, stOf e.st m rout⟩ a W' D' β' ∧ Rep W' D' β' v (res.ren (gmap m e.st.length)) ∧ (∀ q, Names (res.ren (gmap m e.st.length)) q → q < (stOf e.st m rout).length) ∧ (rout = [] → Rep W' D' β' v res ∧ ∀ q, ¬ Names res q) := by
  have up : ∀ ρ b, D ρ b → lent D β e.st (posOf m) ρ b := fun ρ b hb => .inl hb
  have hrl : (rinOf e.st m).length = m.length := by simp [rinOf]
  have hblk := @block_lt W D β e.st h.mem.store.root
  have hlt : ∀ ρ b, lent D β e.st (posOf m) ρ b → b < W.heap.size := by
    rintro ρ b (hb | ⟨_, r, h1, _, h3⟩)
    · exact h.mem.lt ρ b hb
    · exact hblk h1 h3
  have hsep : ∀ ρ ρ' b, lent D β e.st (posOf m) ρ b → lent D β e.st (posOf m) ρ' b → ρ = ρ' := by
    rintro ρ ρ' b (hb | ⟨h0, r, h1, h2, h3⟩) (hb' | ⟨h0', r', h1', h2', h3'⟩)
    · exact h.mem.sep ρ ρ' b hb hb'
    · exact (h.mem.store.far r' b ρ h1' h3' hb).elim
    · exact (h.mem.store.far r b ρ' h1 h3 hb').elim
    · rw [h0, h0']
  have hstore : StoreOk W (lent D β e.st (posOf m)) (handβ β m) (rinOf e.st m) := by
    refine ⟨fun k R hk => ?_, fun k k' g h1 h2 h3 h4 => ?_, fun k g ρ h1 h2 h3 => ?_⟩
    · obtain ⟨q, hq, rfl⟩ := rinOf_get hk
      have hqb : handβ β m k = β q := by simp [handβ, hq]
      have hql := hml q (List.mem_of_getElem? hq)
      rw [List.getD_eq_getElem?_getD, List.getElem?_eq_getElem hql, Option.getD_some]
      have hR := h.mem.store.root q _ (List.getElem?_eq_getElem hql)
      generalize e.st[q] = R0 at hR
      cases R0 with
      | gone => trivial
      | row t w xs =>
        rcases hR with ⟨k1, k2⟩ | ⟨g, cur, k1, k2, k3⟩
        · exact .inl ⟨hqb.trans k1, k2⟩
        · exact .inr ⟨g, cur, hqb.trans k1, k2, fun i x hx => ⟨(k3 i x hx).1, fun j y hy => let ⟨u, u1, u2⟩ := (k3 i x hx).2 j y hy; ⟨u, u1, u2.mono (fun ρ b hb => ⟨rfl, up ρ b hb⟩)⟩⟩⟩
      | mp kv =>
        obtain ⟨g, es, clk, k1, k2, k3, k4⟩ := hR
        exact ⟨g, es, clk, hqb.trans k1, k2, k3, fun i k x hx => let ⟨e0, u1, u2, u3⟩ := k4 i k x hx; ⟨e0, u1, u2.mono (fun ρ b hb => ⟨rfl, up ρ b hb⟩), u3.mono (fun ρ b hb => ⟨rfl, up ρ b hb⟩)⟩⟩
      | box t cs =>
        obtain ⟨g, cur, k1, k2, k3, k4⟩ := hR
        refine ⟨g, cur, hqb.trans k1, k2, by simpa using k3, fun j y hy => ?_⟩
        rw [List.getElem?_map, Option.map_eq_some_iff] at hy
        obtain ⟨c, hc, rfl⟩ := hy
        obtain ⟨u, u1, u2, u3⟩ := k4 j c hc
        exact ⟨u, u1, u2, rnp1_ok up u3⟩
    · obtain ⟨q, q1, q2⟩ := rinOf_live h1
      obtain ⟨q', q1', q2'⟩ := rinOf_live h2
      have e1 : β q = some g := by simpa [handβ, q1] using h3
      have e2 : β q' = some g := by simpa [handβ, q1'] using h4
      have := h.mem.store.inj q q' g q2 q2' e1 e2
      subst this
      have := posOf_nodup hm q1
      rw [posOf_nodup hm q1'] at this
      injection this with this
      exact this.symm
    · obtain ⟨q, q1, q2⟩ := rinOf_live h1
      have e1 : β q = some g := by simpa [handβ, q1] using h2
      rcases h3 with h3 | ⟨_, r, r1, r2, r3⟩
      · exact h.mem.store.far q g ρ q2 e1 h3
      · have := h.mem.store.inj q r g q2 r1 e1 r3
        subst this
        rw [posOf_nodup hm q1] at r2
        cases r2
  have hbox : ∀ (r t : Nat) (cs : List AV) (y : AV) (q : Nat), (rinOf e.st m)[r]? = some (Root.box t cs) → y ∈ cs → Names y q → q < (rinOf e.st m).length := by
    intro k t cs y q hk hy hq
    rw [hrl]
    obtain ⟨p, _, hR⟩ := rinOf_get hk
    generalize e.st.getD p .gone = R0 at hR
    cases R0 <;> simp [Root.rnp] at hR
    obtain ⟨_, rfl⟩ := hR
    obtain ⟨c, _, rfl⟩ := List.mem_map.1 hy
    exact rnp1_names hq
  refine (hs.2 W (lent D β e.st (posOf m)) (handβ β m) vs (by omega) hstore hlt hsep hbox hlen (fun i x hx => by rw [hrl]; exact hargs i x hx)).mono ?_
  rintro e' W' ⟨v, D', β', rfl, hM, hrt, hbx, hres, hrn⟩
  -- the caller's regions and blocks, behind the call
  let D2 : Nat → Nat → Prop := fun ρ b => if ρ = 0 then D 0 b else D' ρ b
  let β2 : Nat → Option Nat := fun q => if q < e.st.length then β q else β' (q - e.st.length + m.length)
  have hmr : m.length ≤ rout.length := by have := hM.kst; rw [hrl] at this; exact this
  have old : ∀ q, q < e.st.length → β2 q = β q := fun q hq => by simp only [β2]; rw [if_pos hq]
  have hb2 : ∀ k, k < rout.length → β2 (gmap m e.st.length k) = β' k := by
    intro k hk
    unfold gmap
    cases hq : m[k]? with
    | some q =>
      have hql := hml q (List.mem_of_getElem? hq)
      simp only []
      rw [old q hql, hM.hand k (by rw [hrl]; exact (List.getElem?_eq_some_iff.1 hq).1)]
      simp [handβ, hq]
    | none =>
      have hkm : m.length ≤ k := by
        rcases Nat.lt_or_ge k m.length with h0 | h0
        · rw [List.getElem?_eq_getElem h0] at hq; cases hq
        · exact h0
      simp only [β2]
      rw [if_neg (by omega)]
      congr 1; omega
  have d2 : ∀ ρ b, noz D' ρ b → D2 ρ b := fun ρ b hb => by simp only [D2]; rw [if_neg hb.1]; exact hb.2
  have dD : ∀ ρ b, D ρ b → D2 ρ b := fun ρ b hb => by
    simp only [D2]
    split
    · rename_i h0; subst h0; exact hb
    · exact hM.dup ρ b (up ρ b hb)
  -- old memory
  have oldb : ∀ b, b < W.heap.size → ¬ (∃ r, Live (rinOf e.st m) r ∧ handβ β m r = some b) → W'.heap[b]? = W.heap[b]? := fun b hb hO => hM.frame b hb hO
  have notO : ∀ q g, Live e.st q → posOf m q = none → β q = some g → ¬ (∃ r, Live (rinOf e.st m) r ∧ handβ β m r = some g) := by
    rintro q g h1 h2 h3 ⟨k, k1, k2⟩
    obtain ⟨p, p1, p2⟩ := rinOf_live k1
    have : β p = some g := by simpa [handβ, p1] using k2
    have := h.mem.store.inj q p g h1 p2 h3 this
    subst this
    rw [posOf_nodup hm p1] at h2
    cases h2
  have Oown : ∀ b, (∃ r, Live (rinOf e.st m) r ∧ handβ β m r = some b) → ∃ q, Live e.st q ∧ β q = some b ∧ q ∈ m := by
    rintro b ⟨k, k1, k2⟩
    obtain ⟨p, p1, p2⟩ := rinOf_live k1
    exact ⟨p, p2, by simpa [handβ, p1] using k2, List.mem_of_getElem? p1⟩
  have hmv : Mv W W' D D2 β β2 (· < e.st.length) := ⟨fun ρ b hb => ⟨oldb b (h.mem.lt ρ b hb) (fun hO => by
      obtain ⟨q, q1, q2, _⟩ := Oown b hO
      exact h.mem.store.far q b ρ q1 q2 hb), dD ρ b hb⟩, hM.keeps, old⟩
  have hlen2 : (stOf e.st m rout).length = e.st.length + (rout.length - m.length) := by
    simp [stOf, putAll_length]
  have gm_lt : ∀ k, k < rout.length → gmap m e.st.length k < (stOf e.st m rout).length := by
    intro k hk
    rw [hlen2]
    unfold gmap
    cases hq : m[k]? with
    | some q => have := hml q (List.mem_of_getElem? hq); simp only []; omega
    | none =>
      have hkm : m.length ≤ k := by
        rcases Nat.lt_or_ge k m.length with h0 | h0
        · rw [List.getElem?_eq_getElem h0] at hq; cases hq
        · exact h0
      simp only []
      omega
  -- the roots behind the call
  have look : ∀ q R, (stOf e.st m rout)[q]? = some R → (q < e.st.length ∧ posOf m q = none ∧ e.st[q]? = some R) ∨ ∃ k R0, k < rout.length ∧ rout[k]? = some R0 ∧ q = gmap m e.st.length k ∧ R = R0.ren (gmap m e.st.length) := by
    intro q R hq
    unfold stOf at hq
    by_cases hql : q < e.st.length
    · rw [List.getElem?_append_left (by rw [putAll_length]; exact hql), putAll_get m _ _ _ _ _ hm hml] at hq
      cases hp : posOf m q with
      | none => simp only [hp] at hq; exact .inl ⟨hql, rfl, hq⟩
      | some j =>
        simp only [hp, Nat.zero_add, Option.some.injEq] at hq
        have hj := posOf_lt hp
        have hjr : j < rout.length := by omega
        refine .inr ⟨j, rout[j], hjr, List.getElem?_eq_getElem hjr, ?_, ?_⟩
        · simp [gmap, posOf_some hp]
        · rw [← hq, List.getD_eq_getElem?_getD, List.getElem?_eq_getElem hjr]; rfl
    · rw [List.getElem?_append_right (by rw [putAll_length]; omega), putAll_length, List.getElem?_map, Option.map_eq_some_iff] at hq
      obtain ⟨R0, hR0, rfl⟩ := hq
      rw [List.getElem?_drop] at hR0
      have hk := (List.getElem?_eq_some_iff.1 hR0).1
      refine .inr ⟨_, R0, hk, hR0, ?_, rfl⟩
      unfold gmap
      rw [List.getElem?_eq_none (by omega)]
      simp only []
      omega
  have live2 : ∀ q, Live (stOf e.st m rout) q → (q < e.st.length ∧ posOf m q = none ∧ Live e.st q) ∨ ∃ k, Live rout k ∧ q = gmap m e.st.length k := by
    rintro q ⟨R, h1, h2⟩
    rcases look q R h1 with ⟨k1, k2, k3⟩ | ⟨k, R0, k1, k2, k3, rfl⟩
    · exact .inl ⟨k1, k2, R, k3, h2⟩
    · exact .inr ⟨k, ⟨R0, k2, fun e0 => h2 (by subst e0; rfl)⟩, k3⟩
  refine ⟨v, D2, β2, rfl, ⟨⟨⟨fun q R hq => ?_, fun q q' g h1 h2 h3 h4 => ?_, fun q g ρ h1 h2 h3 => ?_⟩, hM.os.trans h.mem.os, hM.tape.trans h.mem.tape, hM.output.trans h.mem.output, Nat.le_trans h.mem.size hM.size, fun b hb hO => ?_, h.mem.keeps.trans hM.keeps, fun ρ b hb => dD ρ b (h.mem.dup ρ b hb), fun ρ b hρ hb => ?_, fun ρ b hb => ?_, fun ρ b hb => ?_, fun q g h1 h2 => ?_, fun ρ b hb => ?_, fun ρ ρ' b h1 h2 => ?_, fun r hr => ?_, ?_⟩, fun i => (h.tm i).mv hmv (fun q hq => h.nm i q hq), fun i q hq => ?_, fun q t cs y p hq hy hp => ?_, h.dd, h.sz⟩, ?_, fun q hq => ?_, fun hn0 => ?_⟩
  · -- roots
    rcases look q R hq with ⟨k1, k2, k3⟩ | ⟨k, R0, k1, k2, rfl, rfl⟩
    · by_cases hgone : R = .gone
      · subst hgone; trivial
      exact (h.mem.store.root q R k3).mv hmv (old q k1) (fun g hg => oldb g (hblk ⟨R, k3, hgone⟩ hg) (notO q g ⟨R, k3, hgone⟩ k2 hg)) (fun t cs y p hR hy hp => h.bx q t cs y p (hR ▸ k3) hy hp)
    · have h1 := (hrt k R0 k2).ren (g := gmap m e.st.length) (β' := β2) (hb2 k k1) (fun t cs y p hR hy hp => hb2 p (hbx k t cs y p (hR ▸ k2) hy hp))
      exact h1.mv (ok := fun _ => True) ⟨fun ρ b hb => ⟨rfl, d2 ρ b hb⟩, Keeps.refl W', fun _ _ => rfl⟩ rfl (fun _ _ => rfl) (fun _ _ _ _ _ _ _ => trivial)
  · -- one block, one root
    rcases live2 q h1 with ⟨a1, a2, a3⟩ | ⟨k, a1, rfl⟩ <;> rcases live2 q' h2 with ⟨b1, b2, b3⟩ | ⟨k', b1, rfl⟩
    · rw [old q a1] at h3; rw [old q' b1] at h4
      exact h.mem.store.inj q q' g a3 b3 h3 h4
    · rw [old q a1] at h3
      rw [hb2 k' (live_lt b1)] at h4
      have h5 := hblk a3 h3
      rcases hM.own k' g b1 h4 with h6 | h6
      · exact absurd h5 (Nat.not_lt.2 h6)
      · exact (notO q g a3 a2 h3 h6).elim
    · rw [old q' b1] at h4
      rw [hb2 k (live_lt a1)] at h3
      have h5 := hblk b3 h4
      rcases hM.own k g a1 h3 with h6 | h6
      · exact absurd h5 (Nat.not_lt.2 h6)
      · exact (notO q' g b3 b2 h4 h6).elim
    · rw [hb2 k (live_lt a1)] at h3
      rw [hb2 k' (live_lt b1)] at h4
      rw [hM.store.inj k k' g a1 b1 h3 h4]
  · -- apart from the regions
    rcases live2 q h1 with ⟨a1, a2, a3⟩ | ⟨k, a1, rfl⟩
    · rw [old q a1] at h2
      simp only [D2] at h3
      split at h3
      · exact h.mem.store.far q g 0 a3 h2 h3
      · rename_i h0
        rcases hM.dnew ρ g h3 with h4 | h4 | h4
        · rcases h4 with h4 | ⟨h4, _⟩
          · exact h.mem.store.far q g ρ a3 h2 h4
          · exact h0 h4
        · have := hblk a3 h2; exact absurd this (Nat.not_lt.2 h4)
        · exact notO q g a3 a2 h2 h4
    · rw [hb2 k (live_lt a1)] at h2
      simp only [D2] at h3
      split at h3
      · have h5 := h.mem.lt 0 g h3
        rcases hM.own k g a1 h2 with h6 | h6
        · exact absurd h5 (Nat.not_lt.2 h6)
        · obtain ⟨p, p1, p2, _⟩ := Oown g h6
          exact h.mem.store.far p g 0 p1 p2 h3
      · exact hM.store.far k g ρ a1 h2 h3
  · -- frame
    rw [oldb b (Nat.lt_of_lt_of_le hb h.mem.size) (fun hO' => by
      obtain ⟨p, p1, p2, _⟩ := Oown b hO'
      rcases h.mem.own p b p1 p2 with h6 | h6
      · omega
      · exact hO h6)]
    exact h.mem.frame b hb hO
  · simp only [D2] at hb
    split at hb
    · rename_i h0; subst h0; exact h.mem.dfix 0 b hρ hb
    · rename_i h0
      rcases hM.dfix ρ b (Nat.lt_of_lt_of_le hρ hn) hb with h4 | ⟨h4, _⟩
      · exact h.mem.dfix ρ b hρ h4
      · exact absurd h4 h0
  · simp only [D2] at hb
    split at hb
    · rename_i h0; subst h0; exact h.mem.dnew 0 b hb
    · rename_i h0
      rcases hM.dnew ρ b hb with h4 | h4 | h4
      · rcases h4 with h4 | ⟨h4, _⟩
        · exact h.mem.dnew ρ b h4
        · exact absurd h4 h0
      · exact .inr (.inl (Nat.le_trans h.mem.size h4))
      · obtain ⟨p, p1, p2, _⟩ := Oown b h4
        exact .inr (h.mem.own p b p1 p2)
  · simp only [D2] at hb
    split at hb
    · rename_i h0; subst h0; exact (h.mem.thaw 0 b hb).imp_right fun k => k.keeps hM.keeps
    · rename_i h0
      rcases hM.thaw ρ b hb with h4 | h4
      · rcases h4 with h4 | ⟨h4, _⟩
        · exact (h.mem.thaw ρ b h4).imp_right fun k => k.keeps hM.keeps
        · exact absurd h4 h0
      · exact .inr h4
  · rcases live2 q h1 with ⟨a1, a2, a3⟩ | ⟨k, a1, rfl⟩
    · rw [old q a1] at h2
      exact h.mem.own q g a3 h2
    · rw [hb2 k (live_lt a1)] at h2
      rcases hM.own k g a1 h2 with h6 | h6
      · exact .inl (Nat.le_trans h.mem.size h6)
      · obtain ⟨p, p1, p2, _⟩ := Oown g h6
        exact h.mem.own p g p1 p2
  · simp only [D2] at hb
    split at hb
    · exact Nat.lt_of_lt_of_le (h.mem.lt 0 b hb) hM.size
    · exact hM.lt ρ b hb
  · -- regions apart
    have cross : ∀ ρ, ρ ≠ 0 → D 0 b → D' ρ b → False := by
      intro ρ h0 k1 k2
      rcases hM.dnew ρ b k2 with h4 | h4 | h4
      · rcases h4 with h4 | ⟨h4, _⟩
        · exact h0 (h.mem.sep ρ 0 b h4 k1)
        · exact h0 h4
      · have := h.mem.lt 0 b k1; exact absurd this (Nat.not_lt.2 h4)
      · obtain ⟨p, p1, p2, _⟩ := Oown b h4
        exact h.mem.store.far p b 0 p1 p2 k1
    simp only [D2] at h1 h2
    split at h1 <;> split at h2
    · rename_i e1 e2; rw [e1, e2]
    · rename_i e1 e2; exact (cross ρ' e2 h1 h2).elim
    · rename_i e1 e2; exact (cross ρ e1 h2 h1).elim
    · exact hM.sep ρ ρ' b h1 h2
  · have := h.mem.kst
    rw [old r (by omega)]
    exact h.mem.hand r hr
  · have := h.mem.kst
    show C.k ≤ (stOf e.st m rout).length
    rw [hlen2]; omega
  · have := h.nm i q hq
    show q < (stOf e.st m rout).length
    rw [hlen2]; omega
  · show p < (stOf e.st m rout).length
    rcases look q _ hq with ⟨k1, k2, k3⟩ | ⟨k, R0, k1, k2, rfl, hR⟩
    · have := h.bx q t cs y p k3 hy hp
      rw [hlen2]; omega
    · obtain ⟨cs0, rfl, rfl⟩ := ren_box hR.symm
      obtain ⟨c, hc, rfl⟩ := List.mem_map.1 hy
      obtain ⟨p0, hp0, rfl⟩ := names_ren1 hp
      exact gm_lt p0 (hbx k t cs0 c p0 k2 hc hp0)
  · exact (hres.ren (β' := β2) (fun q hq => hb2 q (hrn q hq))).monoD d2
  · obtain ⟨p, hp, rfl⟩ := names_ren hq
    exact gm_lt p (hrn p hp)
  · subst hn0
    have hnn : ∀ q, ¬ Names res q := fun q hq => absurd (hrn q hq) (Nat.not_lt_zero q)
    exact ⟨hres.mv (ok := fun _ => False) ⟨fun ρ b hb => ⟨rfl, d2 ρ b hb⟩, Keeps.refl W', fun _ h0 => h0.elim⟩ (fun q hq => hnn q hq), hnn⟩
end
end Go.Ve
