/- The engine, part 13: one operation of a region, with its guard, and calls of functions whose contracts a table holds. No condition. -/
import Derived.Test.YtfeaokelfbjcdaaE12
namespace Go.Ve
open Go.RowKit
set_option linter.unusedVariables false
set_option linter.unusedSimpArgs false

/-- What a function without effect gives: of the region for new rows and the arguments. -/
abbrev Fsem := Nat → List AV → OpR
/-- The function keeps to it. -/
def Pure (P : Program) (f : FuncId) (s : Fsem) : Prop := ∀ (n : Nat) (args : List AV), 2 ≤ n → (s n args).c → SatM P n f [] args [] (s n args).v
def tget : List (Nat × Fsem) → Nat → Option Fsem
  | [], _ => none
  | (g, s) :: T, f => bif Nat.beq g f then some s else tget T f
def Table (P : Program) (T : List (Nat × Fsem)) : Prop := ∀ p ∈ T, Pure P p.1 p.2
theorem Table.nil {P : Program} : Table P [] := fun _ h => by cases h
theorem Table.cons {P : Program} {f : Nat} {s : Fsem} {T : List (Nat × Fsem)} (h : Pure P f s) (hT : Table P T) : Table P ((f, s) :: T) := fun p hp => by
  cases hp with
  | head => exact h
  | tail _ hp => exact hT p hp
theorem Table.get {P : Program} {T : List (Nat × Fsem)} (h : Table P T) {f : Nat} {s : Fsem} (hs : tget T f = some s) : Pure P f s := by
  induction T with
  | nil => cases hs
  | cons p T ih =>
    obtain ⟨g, u⟩ := p
    simp only [tget] at hs
    cases hb : Nat.beq g f
    · rw [hb] at hs
      exact ih (fun q hq => h q (List.mem_cons_of_mem _ hq)) hs
    · rw [hb] at hs
      injection hs with hs
      subst hs
      have := Nat.eq_of_beq_eq_true hb
      subst this
      exact h (g, u) (List.mem_cons_self ..)

/-- A call of a table's function: everything is lent. -/
def tcall (n : Nat) (T : List (Nat × Fsem)) (st : List Root) (f : AV) (args : List AV) : Option OpR :=
  match f with
  | .fn fid caps => match tget T fid with
    | some s => some ⟨(∀ x ∈ args ++ caps, (cv st (posOf []) x).1) ∧ (s n ((args ++ caps).map fun x => (cv st (posOf []) x).2)).c, (s n ((args ++ caps).map fun x => (cv st (posOf []) x).2)).v⟩
    | none => none
  | _ => none

/-- What an operation that leaves an environment's roots alone gives; none: it is of another kind. -/
def qval (P : Program) (n : Nat) (T : List (Nat × Fsem)) (e : Env) (op : Op) : Option OpR :=
  match op with
  | .call ⟨.value f, args, _⟩ => match tcall n T e.st (e.arg f) (args.toList.map e.arg) with
    | some r => some ⟨e.argc f ∧ (∀ x ∈ args.toList, e.argc x) ∧ r.c, r.v⟩
    | none => none
  | .build t parts => some ⟨(∀ p ∈ parts.toList, e.argc p.2) ∧ (vBuild P t (parts.toList.map fun p => (p.1, e.arg p.2))).c, (vBuild P t (parts.toList.map fun p => (p.1, e.arg p.2))).v⟩
  | .box _ _ | .alloc _ | .buildSlice _ _ _ | .makeSlice _ _ _ | .makeMap _ _ | .store _ _ _ | .mapUpdate _ _ _ _ => none
  | .call ⟨.builtin .append, _, _⟩ | .call ⟨.builtin .copy, _, _⟩ => none
  | op => some (opv P e op)

/-- The bit that a guard asks for. -/
def gbit (e : Env) (ops : Array Oper) (j : Nat) (want : Bool) : Option Bool :=
  match (ops[j]?).bind (·.dst) with
  | some t => match tv e.tm t with
    | .bool b => some (b == want)
    | .gd g (.bool b) => some (g && (b == want))
    | _ => none
  | none => none

def vstep (P : Program) (n : Nat) (T : List (Nat × Fsem)) (ops : Array Oper) (o : Oper) (e : Env) (K : Env → Prop) : Prop :=
  match o.guard with
  | none => match qval P n T e o.op with
    | some r => r.c ∧ K (e.put o.dst r.v)
    | none => vop P n o e K
  | some (j, want) => match gbit e ops j want with
    | some g => match qval P n T e o.op with
      | some r => (g = true → r.c) ∧ K (e.put o.dst (.gd g r.v))
      | none => (g = true → vop P n o e K) ∧ (g = false → K (e.put o.dst .undef))
    | none => False

section
variable {P : Program} {C : Ctx} {sz n : Nat} {T : List (Nat × Fsem)} {ops : Array Oper} {e : Env} {a : Act} {W : World} {D : Nat → Nat → Prop} {β : Nat → Option Nat} {K : Env → Prop} {Q : Exit → Act → World → Prop}

theorem stOf_nil (st : List Root) : stOf st [] [] = st := by simp [stOf, putAll]

/-- What 'wanted' says of the guard's bit. -/
theorem gbit_wanted (h : St C sz e a W D β) {o : Oper} {j : Nat} {want g : Bool} (ho : o.guard = some (j, want)) (hd : ∀ (i : Nat) (o' : Oper) (d : Nat), ops[i]? = some o' → o'.dst = some d → d < sz) (hg : gbit e ops j want = some g) : Region.wanted o (yielded ops a.tmps) = g := by
  unfold gbit at hg
  split at hg
  · rename_i t ht
    have htl : t < sz := by
      rw [Option.bind_eq_some_iff] at ht
      obtain ⟨o', h1, h2⟩ := ht
      exact hd j o' t h1 h2
    have hts : a.tmps[t]? = some (a.tmps.getD t undef) := by
      have : t < a.tmps.size := by rw [h.sz]; exact htl
      simp [this]
    have htm := h.tm t
    have hy : yielded ops a.tmps j = match a.tmps.getD t undef with | .bool b => some b | _ => none := by
      unfold yielded
      rw [ht, Option.bind_some, hts]
      generalize a.tmps.getD t undef = w
      cases w <;> rfl
    simp only [Region.wanted, ho, hy]
    generalize a.tmps.getD t undef = w at htm ⊢
    split at hg
    · rename_i b hb
      injection hg with hg
      rw [hb] at htm
      rw [rep_bool htm, ← hg]
      cases b <;> cases want <;> rfl
    · rename_i g' b hb
      injection hg with hg
      rw [hb] at htm
      cases htm with
      | data _ _ hd => cases hd
      | gd _ _ _ h1 h2 =>
        cases g'
        · rw [h2 rfl, ← hg]; rfl
        · rw [rep_bool (h1 rfl), ← hg]
          cases b <;> cases want <;> rfl
    · cases hg
  · cases hg

/-- A quiet operation is done. -/
theorem qval_ok (hC : C.n ≠ 0) (hCn : C.n ≤ n) (h2 : 2 ≤ n) (hT : Table P T) (h : St C sz e a W D β) {o : Oper} (hd : ∀ d, o.dst = some d → d < sz) {r : OpR} (hq : qval P n T e o.op = some r) (hc : r.c) :
    o.wp P a W (fun a' W' => ∃ D' β' v, St C sz e a W' D' β' ∧ Rep W' D' β' v r.v ∧ (∀ q, Names r.v q → q < e.st.length) ∧ a' = a.put o.dst v) Q := by
  have hf := h.fine
  obtain ⟨dst, op, ty, pos, after, guard⟩ := o
  simp only at hd hq
  unfold qval at hq
  unfold Oper.wp
  have pure_case : (opv P e op).c → Oper.upon P ⟨dst, op, ty, pos, after, guard⟩ a (fun a' W' => ∃ D' β' v, St C sz e a W' D' β' ∧ Rep W' D' β' v (opv P e op).v ∧ (∀ q, Names (opv P e op).v q → q < e.st.length) ∧ a' = a.put dst v) Q ((execOp a.eval ⟨dst, op, ty, pos, after, guard⟩).run P W) := by
    intro hc
    obtain ⟨v, hr, hx⟩ := opv_ok (o := ⟨dst, op, ty, pos, after, guard⟩) hf hc
    rw [hr, Oper.upon_value]
    exact ⟨D, β, v, h, hx, fun q hq => opv_names hf hc hq, rfl⟩
  split at hq
  · -- a call
    rename_i f args _
    unfold tcall at hq
    split at hq
    · rename_i r' hr'
      injection hq with hq
      subst hq
      obtain ⟨h1, h3, h4⟩ := hc
      split at hr'
      · rename_i fid caps hfe
        split at hr'
        · rename_i s hs
          injection hr' with hr'
          subst hr'
          obtain ⟨h4, h5⟩ := h4
          have hfr : Rep W D β (a.eval f) (.fn fid caps) := by rw [← hfe]; exact hf.arg h1
          obtain ⟨vs, hvf, hvl, hvr⟩ : ∃ vs : Array Value, a.eval f = .func (.func fid) #[] vs ∧ vs.size = caps.length ∧ ∀ (i : Nat) (y : AV), caps[i]? = some y → ∃ u, vs[i]? = some u ∧ Rep W D β u y := by
            generalize a.eval f = w at hfr
            cases hfr with
            | data _ _ hd => cases hd with | fn _ vs _ u hl hu hr => exact ⟨vs, rfl, hl, fun i y hy => ⟨u i, hu i y hy, .data _ _ (hr i y hy)⟩⟩
            | fn _ vs _ u hl hu hr => exact ⟨vs, rfl, hl, fun i y hy => ⟨u i, hu i y hy, hr i y hy⟩⟩
          have hsat := hT.get hs n _ h2 h5
          have hrun : (execOp a.eval ⟨dst, .call ⟨.value f, args, ‹_›⟩, ty, pos, after, guard⟩).run P W = .ok (.enter fid (args.map a.eval ++ vs)) W := by
            simp only [execOp, resolve, hvf, Deferred.ofValue, Sem.run_bind, Sem.run_pure, Result.andThen_ok, invoke, Array.empty_append]
            exact hsat.1 _ _
          rw [hrun, Oper.upon_enter]
          have hcall := h.call (P := P) (f := fid) (m := []) (vs := (args.map a.eval ++ vs).toList) hC hCn (by simp) (fun _ h => by cases h) hsat (by simp [hvl]) (fun i x hi => by
            simp only [List.getElem?_map, Option.map_eq_some_iff] at hi
            obtain ⟨y, hy, rfl⟩ := hi
            have hym := List.mem_of_getElem? hy
            have hc := h4 y hym
            have hrep : ∃ u, (args.map a.eval ++ vs).toList[i]? = some u ∧ Rep W D β u y := by
              by_cases hia : i < args.size
              · rw [List.getElem?_append_left (by simpa using hia), List.getElem?_map, Option.map_eq_some_iff] at hy
                obtain ⟨ox, hox, rfl⟩ := hy
                refine ⟨a.eval ox, ?_, hf.arg (h3 ox (List.mem_of_getElem? hox))⟩
                rw [Array.toList_append, List.getElem?_append_left (by simpa using hia)]
                simp only [Array.toList_map, List.getElem?_map, hox]
                rfl
              · rw [List.getElem?_append_right (by simp; omega)] at hy
                simp only [List.length_map, Array.length_toList] at hy
                obtain ⟨u, u1, u2⟩ := hvr _ y hy
                refine ⟨u, ?_, u2⟩
                rw [Array.toList_append, List.getElem?_append_right (by simp; omega)]
                simpa using u1
            obtain ⟨u, u1, u2⟩ := hrep
            exact ⟨u, u1, cv_ok h.mem.store.root u2 hc, fun q hq => cv_names hq⟩)
          rw [Array.toArray_toList] at hcall
          refine hcall.mono ?_
          rintro e' W' ⟨v, D', β', rfl, s1, _, s3, s4⟩
          rw [stOf_nil] at s1 s3
          exact ⟨D', β', v, s1, (s4 rfl).1, fun q hq => ((s4 rfl).2 q hq).elim, rfl⟩
        · cases hr'
      · cases hr'
    · cases hq
  · -- build
    rename_i t parts
    injection hq with hq
    subst hq
    obtain ⟨h1, h2⟩ := hc
    obtain ⟨u, u1, u2⟩ := vBuild_ok (P := P) (W := W) (D := D) (β := β) (t := t) (pv := parts.map fun (i, x) => (i, a.eval x)) (px := parts.toList.map fun p => (p.1, e.arg p.2)) (by simp) (fun i k x hi => by
      simp only [List.getElem?_map, Option.map_eq_some_iff, Prod.mk.injEq] at hi
      obtain ⟨p, p1, rfl, rfl⟩ := hi
      refine ⟨a.eval p.2, ?_, hf.arg (h1 p (List.mem_of_getElem? p1))⟩
      simp only [Array.toList_map, List.getElem?_map, p1]
      rfl) h2
    have hr : (execOp a.eval ⟨dst, .build t parts, ty, pos, after, guard⟩).run P W = .ok (.value u) W := by
      simp only [execOp, Sem.run_bind, u1, Result.andThen_ok, Sem.run_pure]
    rw [hr, Oper.upon_value]
    refine ⟨D, β, u, h, u2, fun q hq => ?_, rfl⟩
    obtain ⟨k, x, hx, hq⟩ := vBuild_names h2 hq
    obtain ⟨p, hpm, hp⟩ := List.mem_map.1 hx
    simp only [Prod.mk.injEq] at hp
    obtain ⟨_, rfl⟩ := hp
    exact hf.names' _ (h1 p hpm) hq
  any_goals cases hq
  exact pure_case hc

theorem vstep_ok (hC : C.n ≠ 0) (hCn : C.n ≤ n) (h2 : 2 ≤ n) (hT : Table P T) (h : St C sz e a W D β) {o : Oper} (hd : ∀ d, o.dst = some d → d < sz)
    (hds : ∀ (i : Nat) (o' : Oper) (d : Nat), ops[i]? = some o' → o'.dst = some d → d < sz) (hv : vstep P n T ops o e K) :
    if Region.wanted o (yielded ops a.tmps) then o.wp P a W (After C sz K) Q else After C sz K (a.put o.dst undef) W := by
  unfold vstep at hv
  split at hv
  · rename_i hg
    have hw : Region.wanted o (yielded ops a.tmps) = true := by simp [Region.wanted, hg]
    rw [if_pos hw]
    split at hv
    · rename_i r hr
      refine Oper.wp_mono ?_ (qval_ok hC hCn h2 hT h hd hr hv.1)
      rintro a' W' ⟨D', β', v, s1, s2, s3, rfl⟩
      exact ⟨_, D', β', hv.2, s1.put hd s2 s3⟩
    · exact vop_ok hC hCn h hd hv
  · rename_i j want hg
    split at hv
    · rename_i g hgb
      have hw := gbit_wanted h hg hds hgb
      rw [hw]
      split at hv
      · rename_i r hr
        cases g
        · simp only [Bool.false_eq_true, if_false]
          exact ⟨_, D, β, hv.2, h.put hd (.gd _ _ _ (fun h0 => by cases h0) (fun _ => rfl)) (fun q hq => by cases hq)⟩
        · simp only [if_true]
          refine Oper.wp_mono ?_ (qval_ok hC hCn h2 hT h hd hr (hv.1 rfl))
          rintro a' W' ⟨D', β', v, s1, s2, s3, rfl⟩
          exact ⟨_, D', β', hv.2, s1.put hd (.gd _ _ _ (fun _ => s2) (fun h0 => by cases h0)) (fun q hq => by cases hq with | gd _ _ hq => exact s3 q hq)⟩
      · cases g
        · simp only [Bool.false_eq_true, if_false]
          exact ⟨_, D, β, hv.2 rfl, h.put hd (.undef _) (fun q hq => by cases hq)⟩
        · simp only [if_true]
          exact vop_ok hC hCn h hd (hv.1 rfl)
    · exact hv.elim
end
end Go.Ve
