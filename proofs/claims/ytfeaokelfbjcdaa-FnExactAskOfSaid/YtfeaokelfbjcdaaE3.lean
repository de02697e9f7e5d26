/- The engine, part 3: operations without effect, over an environment. No condition. -/
import Derived.Test.YtfeaokelfbjcdaaE2
namespace Go.Ve
open Go.RowKit
set_option linter.unusedVariables false
set_option linter.unusedSimpArgs false

def Env.ev (e : Env) : Operand → AV
  | .tmp t => tv e.tm t
  | .const v => ofValue v
  | .func f => .fn f []
  | .global _ => .undef
/-- An operand's value, the guard taken off; and when that may be done. -/
def Env.arg (e : Env) (x : Operand) : AV := (e.ev x).core
def Env.argc (e : Env) (x : Operand) : Prop := (e.ev x).gc = true

structure Fine (W : World) (D : Nat → Nat → Prop) (β : Nat → Option Nat) (e : Env) (a : Act) : Prop where
  tm : ∀ i, Rep W D β (a.tmps.getD i undef) (tv e.tm i)
  nm : ∀ i q, Names (tv e.tm i) q → q < e.st.length
  rt : ∀ r R, e.st[r]? = some R → RootOk W D β r R
  bx : ∀ (r t : Nat) (cs : List AV) (y : AV) (q : Nat), e.st[r]? = some (Root.box t cs) → y ∈ cs → Names y q → q < e.st.length

section
variable {W : World} {D : Nat → Nat → Prop} {β : Nat → Option Nat} {e : Env} {a : Act}
theorem Fine.ev (h : Fine W D β e a) (x : Operand) : Rep W D β (a.eval x) (e.ev x) := by
  cases x with
  | tmp t => exact h.tm t
  | const v => exact rep_ofValue ..
  | func f => exact .data _ _ (.fn f #[] [] (fun _ => undef) rfl (fun i y hy => by simp at hy) (fun i y hy => by simp at hy))
  | global g => exact .undef _
theorem Fine.names (h : Fine W D β e a) (x : Operand) {q : Nat} (hn : Names (e.ev x) q) : q < e.st.length := by
  cases x with
  | tmp t => exact h.nm t q hn
  | const v => exact (names_ofValue hn).elim
  | func f => cases hn with | fn _ _ y _ hy _ => cases hy
  | global g => cases hn
theorem Fine.arg (h : Fine W D β e a) {x : Operand} (hc : e.argc x) : Rep W D β (a.eval x) (e.arg x) := (h.ev x).core hc
theorem Fine.names' (h : Fine W D β e a) (x : Operand) (hc : e.argc x) {q : Nat} (hn : Names (e.arg x) q) : q < e.st.length := h.names x (hn.core hc)
end

def pickv (c a b : AV) : OpR :=
  match c.core, a.core, b.core with
  | .bool t, .bool x, .bool y => ⟨c.gc = true ∧ (t = true → a.gc = true) ∧ (t = false → b.gc = true), .bool (bif t then x else y)⟩
  | .bool t, x, y => ⟨c.gc = true ∧ (t = true → a.gc = true) ∧ (t = false → b.gc = true), bif t then x else y⟩
  | _, _, _ => .no

def vMax (x y : AV) : OpR :=
  match x, y with
  | .int k a, .int _ b => ⟨True, .int k (if b > a then b else a)⟩
  | _, _ => .no
def vMin (x y : AV) : OpR :=
  match x, y with
  | .int k a, .int _ b => ⟨True, .int k (if b < a then b else a)⟩
  | _, _ => .no
def vNil (x : AV) : OpR :=
  match x with
  | .ptr r w i j => ⟨True, .ptr r w i j⟩
  | .dptr τ cs => ⟨True, .dptr τ cs⟩
  | .fn f cs => ⟨True, .fn f cs⟩
  | _ => .no
/-- Values that a function value may hold. -/
def vFunc (f : FuncId) (vs : List AV) : AV := .fn f vs

def opv (P : Program) (e : Env) (op : Op) : OpR :=
  match op with
  | .move x => ⟨e.argc x, e.arg x⟩
  | .assign x => ⟨e.argc x, e.arg x⟩
  | .pick c a b => pickv (e.ev c) (e.ev a) (e.ev b)
  | .load t a => ⟨e.argc a ∧ (behind e.st (e.arg a)).1 ∧ (ldv P t (behind e.st (e.arg a)).2).c, (ldv P t (behind e.st (e.arg a)).2).v⟩
  | .nilCheck x => ⟨e.argc x ∧ (vNil (e.arg x)).c, (vNil (e.arg x)).v⟩
  | .binOp op t x y _ => ⟨e.argc x ∧ e.argc y ∧ (vbin P op t (e.arg x) (e.arg y)).c, (vbin P op t (e.arg x) (e.arg y)).v⟩
  | .unOp op _ x => ⟨e.argc x ∧ (vUn op (e.arg x)).c, (vUn op (e.arg x)).v⟩
  | .convert s d x => ⟨e.argc x ∧ (vConv P s d (e.arg x)).c, (vConv P s d (e.arg x)).v⟩
  | .makeFunc (.func f) first caps => ⟨first.size = 0 ∧ (∀ x ∈ caps.toList, e.argc x), .fn f (caps.toList.map e.arg)⟩
  | .slice t x lo hi none => ⟨e.argc x ∧ (∀ y ∈ lo.toList ++ hi.toList, e.argc y) ∧ (vSlice P t (e.arg x) (lo.map e.arg) (hi.map e.arg)).c, (vSlice P t (e.arg x) (lo.map e.arg) (hi.map e.arg)).v⟩
  | .fieldAddr t x f => ⟨e.argc x ∧ (vField P t f (e.arg x)).c, (vField P t f (e.arg x)).v⟩
  | .field t x f => ⟨e.argc x ∧ (vFieldV P t (e.arg x) f).c, (vFieldV P t (e.arg x) f).v⟩
  | .indexAddr t x i => ⟨e.argc x ∧ e.argc i ∧ (vIndexAddr P t (e.arg x) (e.arg i)).c, (vIndexAddr P t (e.arg x) (e.arg i)).v⟩
  | .index t x i => ⟨e.argc x ∧ e.argc i ∧ (vIndex P t (e.arg x) (e.arg i)).c, (vIndex P t (e.arg x) (e.arg i)).v⟩
  | .lookup t x i ok => ⟨e.argc x ∧ e.argc i ∧ (vLookup P e.st t (e.arg x) (e.arg i) ok).c, (vLookup P e.st t (e.arg x) (e.arg i) ok).v⟩
  | .extract x i => ⟨e.argc x ∧ (vExtract (e.arg x) i).c, (vExtract (e.arg x) i).v⟩
  | .call ⟨.builtin b, args, ts⟩ => match b, args.toList, ts.toList with
    | .len, [x], [t] => ⟨e.argc x ∧ (vLen P e.st t (e.arg x)).c, (vLen P e.st t (e.arg x)).v⟩
    | .max, [x, y], _ => ⟨e.argc x ∧ e.argc y ∧ (vMax (e.arg x) (e.arg y)).c, (vMax (e.arg x) (e.arg y)).v⟩
    | .min, [x, y], _ => ⟨e.argc x ∧ e.argc y ∧ (vMin (e.arg x) (e.arg y)).c, (vMin (e.arg x) (e.arg y)).v⟩
    | _, _, _ => .no
  | _ => .no

section
variable {P : Program} {W : World} {D : Nat → Nat → Prop} {β : Nat → Option Nat} {e : Env} {a : Act}

theorem pickv_ok {c x y : AV} {vc vx vy : Value} (hc : Rep W D β vc c) (hx : Rep W D β vx x) (hy : Rep W D β vy y) (h : (pickv c x y).c) :
    ∃ t, vc = .bool t ∧ Rep W D β (if t then vx else vy) (pickv c x y).v := by
  unfold pickv at h ⊢
  split at h
  · rename_i t p q h1 h2 h3
    obtain ⟨g1, g2, g3⟩ := h
    have kc := hc.core g1
    rw [h1] at kc
    obtain rfl := rep_bool kc
    refine ⟨t, rfl, ?_⟩
    cases t
    · have := hy.core (g3 rfl)
      rw [h3] at this
      simpa using this
    · have := hx.core (g2 rfl)
      rw [h2] at this
      simpa using this
  · rename_i t h1 h2
    obtain ⟨g1, g2, g3⟩ := h
    have kc := hc.core g1
    rw [h1] at kc
    obtain rfl := rep_bool kc
    refine ⟨t, rfl, ?_⟩
    cases t
    · have := hy.core (g3 rfl)
      simpa using this
    · have := hx.core (g2 rfl)
      simpa using this
  · exact h.elim

theorem vNil_ok {v : Value} {x : AV} (hx : Rep W D β v x) (hc : (vNil x).c) : (vNil x).v = x ∧ ((∃ p, v = .pointer (some p)) ∨ ∃ f vs, v = .func (.func f) #[] vs) := by
  cases x <;> simp only [vNil] at hc ⊢ <;> try exact hc.elim
  · refine ⟨trivial, .inl ?_⟩
    cases hx with
    | data _ _ hd => cases hd with | dptr p => exact ⟨p, rfl⟩
  · refine ⟨trivial, .inl ?_⟩
    cases hx with
    | data _ _ hd => cases hd
    | ptr r w i j g hg => exact ⟨_, rfl⟩
  · refine ⟨trivial, .inr ?_⟩
    cases hx with
    | data _ _ hd => cases hd with | fn => exact ⟨_, _, rfl⟩
    | fn => exact ⟨_, _, rfl⟩

theorem rep_caps {xs : List Operand} (h : Fine W D β e a) (hc : ∀ x ∈ xs, e.argc x) : ∀ (i : Nat) (y : AV), (xs.map e.arg)[i]? = some y → Rep W D β ((xs.map a.eval).getD i undef) y := by
  intro i y hy
  rw [List.getElem?_map] at hy
  cases hx : xs[i]? with
  | none => simp [hx] at hy
  | some x =>
    simp only [hx, Option.map_some, Option.some.injEq] at hy
    subst hy
    simp only [List.getD_eq_getElem?_getD, List.getElem?_map, hx, Option.map_some, Option.getD_some]
    exact h.arg (hc x (List.mem_of_getElem? hx))

theorem opv_ok {o : Oper} (h : Fine W D β e a) (hc : (opv P e o.op).c) : ∃ v, (execOp a.eval o).run P W = .ok (.value v) W ∧ Rep W D β v (opv P e o.op).v := by
  obtain ⟨dst, op, ty, pos, after, guard⟩ := o
  simp only at hc ⊢
  unfold opv at hc ⊢
  split at hc <;> simp only [execOp]
  · exact ⟨_, rfl, h.arg hc⟩
  · exact ⟨_, rfl, h.arg hc⟩
  · rename_i c x y
    obtain ⟨t, ht, hr⟩ := pickv_ok (h.ev c) (h.ev x) (h.ev y) hc
    exact ⟨_, by simp [ht, asBool], hr⟩
  · rename_i t x
    obtain ⟨h1, h2, h3⟩ := hc
    obtain ⟨u, hu, hr⟩ := load_ok (behind_ok h.rt (h.arg h1) h2) h3
    exact ⟨u, by simp [hu], hr⟩
  · rename_i x
    obtain ⟨h1, h2⟩ := hc
    have hx := h.arg h1
    obtain ⟨h3, h4⟩ := vNil_ok (W := W) hx h2
    rcases h4 with ⟨p, hp⟩ | ⟨f, vs, hp⟩
    · exact ⟨_, by rw [hp]; rfl, by rw [← hp, h3]; exact hx⟩
    · exact ⟨_, by rw [hp]; rfl, by rw [← hp, h3]; exact hx⟩
  · rename_i op t x y _
    obtain ⟨h1, h2, h3⟩ := hc
    obtain ⟨u, ⟨k1, k2⟩, k3⟩ := vbin_ok (ox := x) (oy := y) (h.arg h1) (h.arg h2) h3
    exact ⟨u, by simp [k1, k2], k3⟩
  · rename_i op _ x
    obtain ⟨h1, h2⟩ := hc
    obtain ⟨u, k1, k2⟩ := vUn_ok (P := P) (h.arg h1) h2
    exact ⟨u, by simp [k1], k2⟩
  · obtain ⟨h1, h2⟩ := hc
    obtain ⟨u, k1, k2⟩ := vConv_ok (P := P) (h.arg h1) h2
    exact ⟨u, by simp [k1], k2⟩
  · rename_i f first caps
    obtain ⟨h1, h2⟩ := hc
    have hf : first = #[] := Array.eq_empty_of_size_eq_zero h1
    subst hf
    have hr := rep_caps h h2
    refine ⟨.func (.func f) #[] (caps.map a.eval), by simp [Instr.makeFunc], .fn f _ _ (fun i => (caps.toList.map a.eval).getD i undef) (by simp) (fun i y hy => ?_) hr⟩
    have hi : i < caps.size := by
      have := (List.getElem?_eq_some_iff.1 hy).1
      simpa using this
    simp [hi]
  · rename_i t x lo hi
    obtain ⟨h1, h2, h3⟩ := hc
    have hl : RepO W D β (lo.map a.eval) (lo.map e.arg) := by
      cases lo with
      | none => trivial
      | some y => exact h.arg (h2 y (by simp))
    have hh : RepO W D β (hi.map a.eval) (hi.map e.arg) := by
      cases hi with
      | none => trivial
      | some y => exact h.arg (h2 y (by simp))
    obtain ⟨u, k1, k2⟩ := vSlice_ok (P := P) (h.arg h1) hl hh h3
    exact ⟨u, by simp [k1], k2⟩
  · obtain ⟨h1, h2⟩ := hc
    obtain ⟨u, k1, k2⟩ := vField_ok (P := P) (h.arg h1) h2
    exact ⟨u, by simp [k1], k2⟩
  · obtain ⟨h1, h2⟩ := hc
    obtain ⟨u, k1, k2⟩ := vFieldV_ok (P := P) (h.arg h1) h2
    exact ⟨u, by simp [k1], k2⟩
  · obtain ⟨h1, h2, h3⟩ := hc
    obtain ⟨u, k1, k2⟩ := vIndexAddr_ok (P := P) (h.arg h1) (h.arg h2) h3
    exact ⟨u, by simp [k1], k2⟩
  · obtain ⟨h1, h2, h3⟩ := hc
    obtain ⟨u, k1, k2⟩ := vIndex_ok (P := P) (h.arg h1) (h.arg h2) h3
    exact ⟨u, by simp [k1], k2⟩
  · obtain ⟨h1, h2, h3⟩ := hc
    obtain ⟨u, k1, k2⟩ := vLookup_ok (P := P) h.rt (h.arg h1) (h.arg h2) h3
    exact ⟨u, by simp [k1], k2⟩
  · obtain ⟨h1, h2⟩ := hc
    obtain ⟨u, k1, k2⟩ := vExtract_ok (P := P) (h.arg h1) h2
    exact ⟨u, by simp [k1], k2⟩
  · rename_i b args ts
    split at hc
    · rename_i x t ha ht
      obtain rfl : args = #[x] := by rw [← Array.toList_inj, ha]
      obtain rfl : ts = #[t] := by rw [← Array.toList_inj, ht]
      obtain ⟨h1, h2⟩ := hc
      obtain ⟨u, k1, k2⟩ := vLen_ok (P := P) (ty := ty) h.rt (h.arg h1) h2
      exact ⟨u, by simp [resolve, invoke, builtin, k1], k2⟩
    · rename_i x y ha
      obtain rfl : args = #[x, y] := by rw [← Array.toList_inj, ha]
      obtain ⟨h1, h2, h3⟩ := hc
      have hx := h.arg h1
      have hy := h.arg h2
      cases hv : e.arg x <;> cases hw : e.arg y <;> simp only [hv, hw, vMax] at h3 hx hy ⊢ <;> try exact h3.elim
      have ex := rep_int hx
      have ey := rep_int hy
      exact ⟨_, by simp [resolve, invoke, builtin, ex, ey, run_max_int2], .data _ _ (.int ..)⟩
    · rename_i x y ha
      obtain rfl : args = #[x, y] := by rw [← Array.toList_inj, ha]
      obtain ⟨h1, h2, h3⟩ := hc
      have hx := h.arg h1
      have hy := h.arg h2
      cases hv : e.arg x <;> cases hw : e.arg y <;> simp only [hv, hw, vMin] at h3 hx hy ⊢ <;> try exact h3.elim
      have ex := rep_int hx
      have ey := rep_int hy
      exact ⟨_, by simp [resolve, invoke, builtin, ex, ey, run_min_int2], .data _ _ (.int ..)⟩
    · exact hc.elim
  · exact hc.elim

theorem nth_mem {xs : List AV} {i : Nat} (h : i < xs.length) : nth xs i ∈ xs := List.mem_of_getElem? (nth_some h)
theorem names_nth {xs : List AV} {i q : Nat} (h : Names (nth xs i) q) : ∃ y ∈ xs, Names y q := by
  by_cases hi : i < xs.length
  · exact ⟨_, nth_mem hi, h⟩
  · simp only [nth, List.getD_eq_getElem?_getD, List.getElem?_eq_none (Nat.le_of_not_lt hi), Option.getD_none] at h
    cases h
theorem names_take {cs : List AV} {n q : Nat} (h : Names (.agg (cs.take n)) q) : Names (.agg cs) q := by
  cases h with | agg _ y _ hy hn => exact .agg _ y _ (List.mem_of_mem_take hy) hn
theorem names_drop {cs : List AV} {n q : Nat} (h : Names (.agg (cs.drop n)) q) : Names (.agg cs) q := by
  cases h with | agg _ y _ hy hn => exact .agg _ y _ (List.mem_of_mem_drop hy) hn
theorem names_zero {t q : Nat} (h : Names (zeroAV P t) q) : False := by
  unfold zeroAV at h
  split at h
  · exact names_ofValue h
  · cases h
theorem kvFind_mem {k : AV} : ∀ {kv : List (AV × AV)} {x : AV}, kvFind kv k = some (some x) → ∃ k', (k', x) ∈ kv
  | [], x, h => by simp [kvFind] at h
  | (k', y) :: kv, x, h => by
    simp only [kvFind] at h
    cases hc : cellEq k k' with
    | none => simp [hc] at h
    | some b =>
      cases hf : kvFind kv k with
      | none => simp [hc, hf] at h
      | some r =>
        simp only [hc, hf, Option.some.injEq] at h
        cases b
        · simp only [cond_false] at h
          subst h
          obtain ⟨k'', hk⟩ := kvFind_mem hf
          exact ⟨k'', List.mem_cons_of_mem _ hk⟩
        · simp only [cond_true, Option.some.injEq] at h
          subst h
          exact ⟨k', List.mem_cons_self ..⟩

theorem vbin_names {op : BinOp} {t : Nat} {x y : AV} {q : Nat} (hn : Names (vbin P op t x y).v q) : False := by
  unfold vbin at hn
  split at hn
  · cases op <;> simp only [vIntBin, OpR.no] at hn <;> cases hn
  · cases op <;> simp only [vStrBin, OpR.no] at hn <;> cases hn
  all_goals
    first
      | (split at hn <;> cases hn)
      | cases hn

theorem opv_names {op : Op} (h : Fine W D β e a) (hc : (opv P e op).c) {q : Nat} (hn : Names (opv P e op).v q) : q < e.st.length := by
  unfold opv at hc hn
  split at hc <;> simp only at hn
  · exact h.names' _ hc hn
  · exact h.names' _ hc hn
  · rename_i c x y
    unfold pickv at hn hc
    split at hn
    · cases hn
    · rename_i t h1 h2
      rw [h1] at hc
      have hc' : (e.ev c).gc = true ∧ (t = true → (e.ev x).gc = true) ∧ (t = false → (e.ev y).gc = true) := by
        split at hc
        · rename_i a1 a2 a3 b1 b2 b3
          injection b1 with b1
          subst b1
          exact hc
        · rename_i a1 a2 a3 b1 b2
          injection b1 with b1
          subst b1
          exact hc
        · exact hc.elim
      cases t
      · exact h.names' y (hc'.2.2 rfl) hn
      · exact h.names' x (hc'.2.1 rfl) hn
    · cases hn
  · rename_i t x
    obtain ⟨h1, h2, h3⟩ := hc
    have key : ∀ y ∈ (behind e.st (e.arg x)).2, Names y q → q < e.st.length := fun y hy hq => behind_names h.rt h.bx (h.arg h1) h2 hy hq
    unfold ldv at hn
    split at hn
    · have := names_take hn
      cases this with | agg _ y _ hy hq => exact key y hy hq
    · cases hn
    · generalize (behind e.st (e.arg x)).2 = cs at *
      cases cs with
      | nil => cases hn
      | cons c cs => exact key c (List.mem_cons_self ..) hn
  · rename_i x
    obtain ⟨h1, h2⟩ := hc
    rw [(vNil_ok (h.arg h1) h2).1] at hn
    exact h.names' _ h1 hn
  · obtain ⟨h1, h2, h3⟩ := hc
    exact (vbin_names hn).elim
  · unfold vUn at hn
    split at hn <;> cases hn
  · unfold vConv at hn
    split at hn <;> cases hn
  · rename_i f first caps
    cases hn with
    | fn _ _ y _ hy hq =>
      obtain ⟨x, hxm, rfl⟩ := List.mem_map.1 hy
      exact h.names' _ (hc.2 _ hxm) hq
  · rename_i t x lo hi
    have hx := fun q hq => h.names' (e := e) x hc.1 (q := q) hq
    unfold vSlice at hn
    split at hn <;> try cases hn
    rename_i hv
    exact hx q (by rw [hv]; exact .osl ..)
  · rename_i t x f
    have hx := fun q hq => h.names' (e := e) x hc.1 (q := q) hq
    unfold vField at hn
    split at hn <;> try cases hn
    split at hn <;> try cases hn
    rename_i hv
    exact hx q (by rw [hv]; exact .ptr ..)
  · rename_i t x f
    have hx := fun q hq => h.names' (e := e) x hc.1 (q := q) hq
    unfold vFieldV at hn
    split at hn <;> try cases hn
    rename_i off ft cs hf hv
    rw [hv] at hx
    split at hn
    · exact hx q (names_drop (names_take hn))
    · cases hn
    · obtain ⟨y, hy, hq⟩ := names_nth hn
      exact hx q (.agg _ y _ hy hq)
  · rename_i t x i
    have hx := fun q hq => h.names' (e := e) x hc.1 (q := q) hq
    unfold vIndexAddr at hn
    split at hn <;> try cases hn
    exact hx q (by rw [‹e.arg x = _›]; exact .osl ..)
  · unfold vIndex at hn
    split at hn <;> cases hn
  · rename_i t x i ok
    obtain ⟨h1, h2, h3⟩ := hc
    unfold vLookup at hn h3
    split at hn <;> try cases hn
    rename_i kt et r ht hv
    simp only [hv] at h3
    split at hn <;> try cases hn
    rename_i kv hr
    split at hn <;> try cases hn
    rename_i o ho
    have val : ∀ {x : AV}, o = some x → Names x q → False := by
      intro x hx hq
      subst hx
      obtain ⟨k', hk⟩ := kvFind_mem ho
      obtain ⟨i, hi⟩ := List.mem_iff_getElem?.1 hk
      obtain ⟨g, es, clk, k1, k2, k3, k4⟩ := h.rt r _ hr
      obtain ⟨e0, _, _, hd⟩ := k4 i _ _ hi
      exact hd.noNames hq
    have get : ∀ {q}, Names (o.getD (zeroAV P et)) q → (∀ {x : AV}, o = some x → Names x q → False) → False := by
      intro q hq hv
      cases o with
      | none => exact names_zero hq
      | some x => exact hv rfl hq
    cases ok
    · simp only [cond_false] at hn
      exact (get hn val).elim
    · simp only [cond_true] at hn
      cases hn with
      | tup _ y _ hy hq =>
        simp only [List.mem_cons, List.not_mem_nil, or_false] at hy
        rcases hy with rfl | rfl
        · exact (get hq val).elim
        · cases hq
  · rename_i x i
    have hx := fun q hq => h.names' (e := e) x hc.1 (q := q) hq
    unfold vExtract at hn
    split at hn <;> try cases hn
    rename_i xs hv
    rw [hv] at hx
    obtain ⟨y, hy, hq⟩ := names_nth hn
    exact hx q (.tup _ y _ hy hq)
  · split at hn
    · rename_i x t ha ht
      unfold vLen at hn
      split at hn <;> try cases hn
      split at hn <;> cases hn
    · unfold vMax at hn
      split at hn <;> cases hn
    · unfold vMin at hn
      split at hn <;> cases hn
    · cases hn
  · cases hn
end

end Go.Ve
