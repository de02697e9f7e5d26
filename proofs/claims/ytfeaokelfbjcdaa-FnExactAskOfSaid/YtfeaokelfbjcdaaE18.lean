/- The engine, part 18: contracts out of function bodies. No condition. -/
import Derived.Test.YtfeaokelfbjcdaaE17
namespace Go.Ve
open Go.RowKit
set_option linter.unusedVariables false
set_option linter.unusedSimpArgs false

/-- Leans on no lent memory; rt: roots may be named. -/
inductive Nz (rt : Bool) : AV → Prop
  | undef : Nz rt .undef
  | int (k : IntKind) (n : Int) : Nz rt (.int k n)
  | bool (b : Bool) : Nz rt (.bool b)
  | str (s : ByteArray) : Nz rt (.str s)
  | nilp : Nz rt .nilp
  | nils : Nz rt .nils
  | nili : Nz rt .nili
  | ifc (t : TypeId) (v : AV) (h : Nz rt v) : Nz rt (.ifc t v)
  | sle (τ w : Nat) : Nz rt (.sl τ w [])
  | sl (τ w : Nat) (xs : List AV) (hτ : τ ≠ 0) (h : ∀ (i : Nat) (x : AV) (j : Nat) (y : AV), xs[i]? = some x → x.cells[j]? = some y → Nz rt y) : Nz rt (.sl τ w xs)
  | dptr (τ : Nat) (cs : List AV) (hτ : τ ≠ 0) (h : ∀ (j : Nat) (y : AV), cs[j]? = some y → Nz rt y) : Nz rt (.dptr τ cs)
  | fn (f : FuncId) (cs : List AV) (h : ∀ (j : Nat) (y : AV), cs[j]? = some y → Nz rt y) : Nz rt (.fn f cs)
  | agg (cs : List AV) (h : ∀ (j : Nat) (y : AV), cs[j]? = some y → Nz rt y) : Nz rt (.agg cs)
  | tup (cs : List AV) (h : ∀ (j : Nat) (y : AV), cs[j]? = some y → Nz rt y) : Nz rt (.tup cs)
  | osl (r w off len : Nat) (h : rt = true) : Nz rt (.osl r w off len)
  | ptr (r w i j : Nat) (h : rt = true) : Nz rt (.ptr r w i j)
  | map (r : Nat) (h : rt = true) : Nz rt (.map r)

section
variable {rt : Bool}
theorem forall_get {cs : List AV} {p : AV → Prop} : (∀ (j : Nat) (y : AV), cs[j]? = some y → p y) ↔ ∀ y ∈ cs, p y :=
  ⟨fun h y hy => let ⟨j, hj⟩ := List.mem_iff_getElem?.1 hy; h j y hj, fun h j y hj => h y (List.mem_of_getElem? hj)⟩
theorem nz_undef : Nz rt .undef ↔ True := ⟨fun _ => trivial, fun _ => .undef⟩
theorem nz_int {k : IntKind} {n : Int} : Nz rt (.int k n) ↔ True := ⟨fun _ => trivial, fun _ => .int ..⟩
theorem nz_bool {b : Bool} : Nz rt (.bool b) ↔ True := ⟨fun _ => trivial, fun _ => .bool ..⟩
theorem nz_str {s : ByteArray} : Nz rt (.str s) ↔ True := ⟨fun _ => trivial, fun _ => .str ..⟩
theorem nz_nilp : Nz rt .nilp ↔ True := ⟨fun _ => trivial, fun _ => .nilp⟩
theorem nz_nils : Nz rt .nils ↔ True := ⟨fun _ => trivial, fun _ => .nils⟩
theorem nz_nili : Nz rt .nili ↔ True := ⟨fun _ => trivial, fun _ => .nili⟩
theorem nz_ifc {t : TypeId} {v : AV} : Nz rt (.ifc t v) ↔ Nz rt v := ⟨fun h => by cases h with | ifc _ _ h => exact h, fun h => .ifc _ _ h⟩
theorem nz_sl {τ w : Nat} {xs : List AV} : Nz rt (.sl τ w xs) ↔ xs = [] ∨ (τ ≠ 0 ∧ ∀ x ∈ xs, ∀ y ∈ x.cells, Nz rt y) := by
  constructor
  · intro h
    cases h with
    | sle => exact .inl rfl
    | sl _ _ _ hτ h => exact .inr ⟨hτ, fun x hx y hy => by
      obtain ⟨i, hi⟩ := List.mem_iff_getElem?.1 hx
      obtain ⟨j, hj⟩ := List.mem_iff_getElem?.1 hy
      exact h i x j y hi hj⟩
  · rintro (rfl | ⟨h1, h2⟩)
    · exact .sle ..
    · exact .sl _ _ _ h1 fun i x j y hi hj => h2 x (List.mem_of_getElem? hi) y (List.mem_of_getElem? hj)
theorem nz_dptr {τ : Nat} {cs : List AV} : Nz rt (.dptr τ cs) ↔ τ ≠ 0 ∧ ∀ y ∈ cs, Nz rt y :=
  ⟨fun h => by cases h with | dptr _ _ hτ h => exact ⟨hτ, forall_get.1 h⟩, fun h => .dptr _ _ h.1 (forall_get.2 h.2)⟩
theorem nz_fn {f : FuncId} {cs : List AV} : Nz rt (.fn f cs) ↔ ∀ y ∈ cs, Nz rt y := ⟨fun h => by cases h with | fn _ _ h => exact forall_get.1 h, fun h => .fn _ _ (forall_get.2 h)⟩
theorem nz_agg {cs : List AV} : Nz rt (.agg cs) ↔ ∀ y ∈ cs, Nz rt y := ⟨fun h => by cases h with | agg _ h => exact forall_get.1 h, fun h => .agg _ (forall_get.2 h)⟩
theorem nz_tup {cs : List AV} : Nz rt (.tup cs) ↔ ∀ y ∈ cs, Nz rt y := ⟨fun h => by cases h with | tup _ h => exact forall_get.1 h, fun h => .tup _ (forall_get.2 h)⟩
theorem nz_osl {r w off len : Nat} : Nz rt (.osl r w off len) ↔ rt = true := ⟨fun h => by cases h with | osl _ _ _ _ h => exact h, fun h => .osl _ _ _ _ h⟩
theorem nz_ptr {r w i j : Nat} : Nz rt (.ptr r w i j) ↔ rt = true := ⟨fun h => by cases h with | ptr _ _ _ _ h => exact h, fun h => .ptr _ _ _ _ h⟩
theorem nz_map {r : Nat} : Nz rt (.map r) ↔ rt = true := ⟨fun h => by cases h with | map _ h => exact h, fun h => .map _ h⟩
/-- All these words together. -/
theorem nz_gd {g : Bool} {v : AV} : Nz rt (.gd g v) ↔ False := ⟨(fun h => by cases h), False.elim⟩

variable {W : World} {D : Nat → Nat → Prop} {β : Nat → Option Nat}
theorem RepD.noz {v : Value} {x : AV} (h : RepD W D v x) : Nz rt x → RepD W (noz D) v x := by
  induction h with
  | int => exact fun _ => .int ..
  | bool => exact fun _ => .bool ..
  | str => exact fun _ => .str ..
  | nilp => exact fun _ => .nilp
  | nils => exact fun _ => .nils
  | nili => exact fun _ => .nili
  | undef v h => exact fun _ => .undef v h
  | leaf v h => exact fun _ => .leaf v h
  | ifc t u v _ ih => intro hz; cases hz with | ifc _ _ hz => exact .ifc t u v (ih hz)
  | sl0 => exact fun _ => .sl0 ..
  | sl a cap τ w xs u hs hD hc hm hw hu _ ih =>
    intro hz
    cases hz with
    | sle => exact .sl0 ..
    | sl _ _ _ hτ hz => exact .sl a cap τ w xs u hs ⟨hτ, hD⟩ hc hm hw hu fun i x j y hx hy => ih i x j y hx hy (hz i x j y hx hy)
  | dptr a τ cs u hs hD hu _ ih => intro hz; cases hz with | dptr _ _ hτ hz => exact .dptr a τ cs u hs ⟨hτ, hD⟩ hu fun j y hy => ih j y hy (hz j y hy)
  | fn f vs caps u hl hu _ ih => intro hz; cases hz with | fn _ _ hz => exact .fn f vs caps u hl hu fun i y hy => ih i y hy (hz i y hy)
theorem Rep.noz {v : Value} {x : AV} (h : Rep W D β v x) : Nz rt x → Rep W (noz D) β v x := by
  induction h with
  | undef v => exact fun _ => .undef v
  | data v x hd => exact fun hz => .data v x (hd.noz hz)
  | osl v r w off len ho => exact fun _ => .osl v r w off len ho
  | ptr r w i j g hg => exact fun _ => .ptr r w i j g hg
  | map r g hg => exact fun _ => .map r g hg
  | fn f vs caps u hl hu _ ih => intro hz; cases hz with | fn _ _ hz => exact .fn f vs caps u hl hu fun i y hy => ih i y hy (hz i y hy)
  | agg vs cs u hl hu ho _ ih => intro hz; cases hz with | agg _ hz => exact .agg vs cs u hl hu ho fun i y hy => ih i y hy (hz i y hy)
  | tup vs cs u hl hu _ ih => intro hz; cases hz with | tup _ hz => exact .tup vs cs u hl hu fun i y hy => ih i y hy (hz i y hy)
  | gd => intro hz; cases hz
theorem Nz.noNames {x : AV} (h : Nz false x) : ∀ q, ¬ Names x q := by
  induction h with
  | fn f cs _ ih => intro q hn; cases hn with | fn _ _ y _ hy hq => obtain ⟨j, hj⟩ := List.mem_iff_getElem?.1 hy; exact ih j y hj q hq
  | agg cs _ ih => intro q hn; cases hn with | agg _ y _ hy hq => obtain ⟨j, hj⟩ := List.mem_iff_getElem?.1 hy; exact ih j y hj q hq
  | tup cs _ ih => intro q hn; cases hn with | tup _ y _ hy hq => obtain ⟨j, hj⟩ := List.mem_iff_getElem?.1 hy; exact ih j y hj q hq
  | osl _ _ _ _ h => cases h
  | ptr _ _ _ _ h => cases h
  | map _ h => cases h
  | _ => intro q hn; cases hn
end

/-- Roots that lean on no lent memory. -/
def Rz : Root → Prop
  | .gone => True
  | .row _ _ xs => ∀ x ∈ xs, ∀ y ∈ x.cells, Nz true y
  | .box _ cs => ∀ y ∈ cs, Nz true y
  | .mp kv => ∀ p ∈ kv, Nz true p.1 ∧ Nz true p.2

section
variable {P : Program} {C : Ctx} {sz : Nat} {e : Env} {a : Act} {W : World} {D : Nat → Nat → Prop} {β : Nat → Option Nat}
theorem RootOk.noz {r : Nat} {R : Root} (h : RootOk W D β r R) (hz : Rz R) : RootOk W (noz D) β r R := by
  cases R with
  | gone => trivial
  | row t w xs =>
    rcases h with h | ⟨g, cur, h1, h2, h3⟩
    · exact .inl h
    · exact .inr ⟨g, cur, h1, h2, fun i x hx => ⟨(h3 i x hx).1, fun j y hy => let ⟨u, u1, u2⟩ := (h3 i x hx).2 j y hy; ⟨u, u1, u2.noz (hz x (List.mem_of_getElem? hx) y (List.mem_of_getElem? hy))⟩⟩⟩
  | box t cs =>
    obtain ⟨g, cur, h1, h2, h3, h4⟩ := h
    exact ⟨g, cur, h1, h2, h3, fun j y hy => let ⟨u, u1, u2, u3⟩ := h4 j y hy; ⟨u, u1, u2, u3.noz (hz y (List.mem_of_getElem? hy))⟩⟩
  | mp kv =>
    obtain ⟨g, es, clk, h1, h2, h3, h4⟩ := h
    exact ⟨g, es, clk, h1, h2, h3, fun i k x hx => let ⟨e0, e1, e2, e3⟩ := h4 i k x hx; ⟨e0, e1, e2.noz (hz _ (List.mem_of_getElem? hx)).1, e3.noz (hz _ (List.mem_of_getElem? hx)).2⟩⟩

/-- An embedded value is one. -/
theorem embR_ok {st : List Root} {m : Nat} {D' : Nat → Nat → Prop} {v : Value} {x : AV} (hs : ∀ r R, st[r]? = some R → RootOk W D β r R) (hD : ∀ ρ b, D ρ b → D' ρ b) (hr : ∀ r ∈ (emb st m x).rs, ∀ g, β r = some g → D' m g) (h : Rep W D β v x) (hc : (emb st m x).c) : Rep W D' β v (emb st m x).v := by
  cases x
  case agg cs =>
    simp only [emb] at hc hr ⊢
    cases h with
    | data _ _ hd => cases hd
    | agg vs _ u hl hu ho hv =>
      refine .agg vs _ u (by simpa using hl) (fun i y hy => ?_) (fun i y hy => ?_) (fun i y hy => ?_)
      all_goals
        rw [List.getElem?_map, Option.map_eq_some_iff] at hy
        obtain ⟨c, hc1, rfl⟩ := hy
      · exact hu i c hc1
      · exact ho i c hc1
      · exact .data _ _ (emb0_ok hs hD (fun r hr0 => hr r (List.mem_flatMap.2 ⟨c, List.mem_of_getElem? hc1, hr0⟩)) (hv i c hc1) (hc c (List.mem_of_getElem? hc1)))
  all_goals exact .data _ _ (emb0_ok hs hD hr h hc)

def embT (st : List Root) (m : Nat) : AV → EmbR
  | .tup cs => ⟨∀ c ∈ cs, (emb st m c).c, .tup (cs.map fun c => (emb st m c).v), cs.flatMap fun c => (emb st m c).rs⟩
  | x => emb st m x
theorem embT_rows {st : List Root} {m : Nat} {x : AV} (hc : (embT st m x).c) : ∀ r ∈ (embT st m x).rs, ∃ t w xs, st[r]? = some (.row t w xs) := by
  cases x
  case tup cs =>
    intro r hr
    simp only [embT, List.mem_flatMap] at hr
    obtain ⟨c, h1, h2⟩ := hr
    exact emb_rows (hc c h1) r h2
  all_goals exact emb_rows hc
theorem embT_ok {st : List Root} {m : Nat} {D' : Nat → Nat → Prop} {v : Value} {x : AV} (hs : ∀ r R, st[r]? = some R → RootOk W D β r R) (hD : ∀ ρ b, D ρ b → D' ρ b) (hr : ∀ r ∈ (embT st m x).rs, ∀ g, β r = some g → D' m g) (h : Rep W D β v x) (hc : (embT st m x).c) : Rep W D' β v (embT st m x).v := by
  cases x
  case tup cs =>
    simp only [embT] at hc hr ⊢
    cases h with
    | data _ _ hd => cases hd
    | tup vs _ u hl hu hv =>
      refine .tup vs _ u (by simpa using hl) (fun i y hy => ?_) (fun i y hy => ?_)
      all_goals
        rw [List.getElem?_map, Option.map_eq_some_iff] at hy
        obtain ⟨c, hc1, rfl⟩ := hy
      · exact hu i c hc1
      · exact embR_ok hs hD (fun r hr0 => hr r (List.mem_flatMap.2 ⟨c, List.mem_of_getElem? hc1, hr0⟩)) (hv i c hc1) (hc c (List.mem_of_getElem? hc1))
  all_goals exact embR_ok hs hD hr h hc

/-! ### Function bodies -/
inductive RV where
  | t (n : Nat)
  | c (a ty : Nat)
def rvOf : ResultVar → RV
  | .tmp t => .t t
  | .cell a t => .c a t
def resOf (fn : Func) : Option (List RV) :=
  match fn.results.toList with
  | [] => some []
  | [x] => some [rvOf x]
  | [x, y] => some [rvOf x, rvOf y]
  | [x, y, z] => some [rvOf x, rvOf y, rvOf z]
  | _ => none
def rvV (P : Program) (e : Env) : RV → OpR
  | .t n => ⟨True, tv e.tm n⟩
  | .c a t => ⟨(behind e.st (tv e.tm a)).1 ∧ (ldv P t (behind e.st (tv e.tm a)).2).c, (ldv P t (behind e.st (tv e.tm a)).2).v⟩
def resAV (P : Program) (e : Env) : List RV → OpR
  | [r] => rvV P e r
  | rs => ⟨∀ r ∈ rs, (rvV P e r).c, .tup (rs.map fun r => (rvV P e r).v)⟩
/-- A function in few words: its code, its results, the number of its temporaries. -/
def slimF (fn : Func) : Option (SCode × List RV × Nat) :=
  match fn.body with
  | none => none
  | some c => match slim c, resOf fn with
    | some s, some rs => some (s, rs, fn.ntmps)
    | _, _ => none
def okF (T : List (Nat × Fsem)) (fn : Func) : Bool :=
  (fn.name != "runtime.NumGoroutine") && (match fn.body with
    | none => false
    | some c => okC T fn.ntmps c)
def enT : Nat → List AV → List (Nat × AV)
  | _, [] => []
  | i, x :: xs => (i, x) :: enT (i + 1) xs

theorem tv_enT : ∀ (xs : List AV) (i t : Nat), tv (enT i xs) t = if t < i then .undef else (xs[t - i]?).getD .undef
  | [], i, t => by simp [enT, tv]
  | x :: xs, i, t => by
    simp only [enT, tv, tv_enT xs (i + 1) t]
    by_cases h : i = t
    · subst h; simp
    · rw [if_neg h]
      by_cases h2 : t < i
      · rw [if_pos h2, if_pos (by omega)]
      · rw [if_neg h2, if_neg (by omega)]
        have : t - i = (t - (i + 1)) + 1 := by omega
        rw [this, List.getElem?_cons_succ]

/-- One result. -/
def oneRes (tmps : Array Value) : ResultVar → Sem Value
  | .tmp t => pure (tmps.getD t undef)
  | .cell a t => do loadVar t (← asAddr (tmps.getD a undef))
theorem results_eq (fn : Func) (tmps : Array Value) : results fn tmps = (do
    let vs ← fn.results.mapM (oneRes tmps)
    pure (if h : vs.size = 1 then vs[0] else .tuple vs)) := by
  unfold results
  congr 1
theorem oneRes_ok (hs : St C sz e a W D β) {r : ResultVar} (hc : (rvV P e (rvOf r)).c) : ∃ v, (oneRes a.tmps r).run P W = .ok v W ∧ Rep W D β v (rvV P e (rvOf r)).v := by
  cases r with
  | tmp t => exact ⟨_, rfl, hs.tm t⟩
  | cell ad t =>
    obtain ⟨h1, h2⟩ := hc
    have hb := behind_ok hs.mem.store.root (hs.tm ad) h1
    obtain ⟨u, k1, k2⟩ := load_ok (P := P) hb h2
    obtain ⟨g, off, hv, _⟩ := hb
    refine ⟨u, ?_, k2⟩
    rw [hv] at k1
    simp only [oneRes, hv, asAddr, Sem.run_bind, Sem.run_pure, Result.andThen_ok]
    simpa [Instr.loadAt, Instr.sureAddr] using k1
theorem results_run {fn : Func} {rs : List RV} (h : resOf fn = some rs) (hs : St C sz e a W D β) (hc : (resAV P e rs).c) : ∃ v, (results fn a.tmps).run P W = .ok v W ∧ Rep W D β v (resAV P e rs).v := by
  unfold resOf at h
  rw [results_eq]
  split at h
  · rename_i hr
    injection h with h; subst h
    have hr' : fn.results = #[] := by rw [← Array.toList_inj, hr]
    exact ⟨.tuple #[], by simp [hr'], .tup _ _ (fun _ => undef) rfl (fun i y hy => by simp at hy) (fun i y hy => by simp at hy)⟩
  · rename_i x hr
    injection h with h; subst h
    have hr' : fn.results = #[x] := by rw [← Array.toList_inj, hr]
    obtain ⟨v, v1, v2⟩ := oneRes_ok (r := x) hs hc
    exact ⟨v, by simp [hr', v1], v2⟩
  · rename_i x y hr
    injection h with h; subst h
    have hr' : fn.results = #[x, y] := by rw [← Array.toList_inj, hr]
    simp only [resAV, List.mem_cons, List.not_mem_nil, or_false, forall_eq_or_imp, forall_eq] at hc
    obtain ⟨v, v1, v2⟩ := oneRes_ok (r := x) hs hc.1
    obtain ⟨u, u1, u2⟩ := oneRes_ok (r := y) hs hc.2
    refine ⟨.tuple #[v, u], by simp [hr', v1, u1], .tup _ _ (fun i => [v, u].getD i undef) rfl (fun i z hz => ?_) (fun i z hz => ?_)⟩
    all_goals
      rcases i with _ | _ | i <;> simp at hz
      all_goals subst hz
    · rfl
    · rfl
    · exact v2
    · exact u2
  · rename_i x y z hr
    injection h with h; subst h
    have hr' : fn.results = #[x, y, z] := by rw [← Array.toList_inj, hr]
    simp only [resAV, List.mem_cons, List.not_mem_nil, or_false, forall_eq_or_imp, forall_eq] at hc
    obtain ⟨v, v1, v2⟩ := oneRes_ok (r := x) hs hc.1
    obtain ⟨u, u1, u2⟩ := oneRes_ok (r := y) hs hc.2.1
    obtain ⟨w, w1, w2⟩ := oneRes_ok (r := z) hs hc.2.2
    refine ⟨.tuple #[v, u, w], by simp [hr', v1, u1, w1], .tup _ _ (fun i => [v, u, w].getD i undef) rfl (fun i z hz => ?_) (fun i z hz => ?_)⟩
    all_goals
      rcases i with _ | _ | _ | i <;> simp at hz
      all_goals subst hz
    · rfl
    · rfl
    · rfl
    · exact v2
    · exact u2
    · exact w2
  · cases h

/-- What a function without effect owes at its end. -/
def retP (P : Program) (n : Nat) (rs : List RV) (r : AV) : Exit → Env → Prop
  | .ret, e | .normal, e => (resAV P e rs).c ∧ (embT e.st n (resAV P e rs).v).c ∧ Nz false (embT e.st n (resAV P e rs).v).v ∧ (embT e.st n (resAV P e rs).v).v = r
  | _, _ => False
/-- What a function owes at its end: the roots that it hands back stand in ρ. -/
def retM (P : Program) (k : Nat) (rs : List RV) (ρ : List Nat) (rout : List Root) (r : AV) : Exit → Env → Prop
  | .ret, e | .normal, e => (resAV P e rs).c ∧ ρ.Nodup ∧ (∀ p < k, ρ[p]? = some p) ∧ (∀ r ∈ ρ, r < e.st.length) ∧ rout = rinOf e.st ρ ∧ r = (resAV P e rs).v.rnp (posOf ρ) ∧ (∀ R ∈ rout, Rz R) ∧ Nz true r
  | _, _ => False

theorem enters_of {f : FuncId} {fn : Func} {T : List (Nat × Fsem)} (hf : P.funcs[f]? = some fn) (ho : okF T fn = true) : Enters P f := by
  intro args W
  simp only [okF, Bool.and_eq_true] at ho
  have hb : ¬ fn.body = none := by
    intro h
    rw [h] at ho
    exact absurd ho.2 (by simp)
  have hn : ¬ fn.name = "runtime.NumGoroutine" := by simpa using ho.1
  simp [callFunc, hf, hb, hn]

theorem body_start {rin : List Root} {args : List AV} {vs : List Value} {n nt : Nat} (hs : StoreOk W D β rin) (hlt : ∀ ρ b, D ρ b → b < W.heap.size) (hsep : ∀ ρ ρ' b, D ρ b → D ρ' b → ρ = ρ')
    (hbx : ∀ (r t : Nat) (cs : List AV) (y : AV) (q : Nat), rin[r]? = some (Root.box t cs) → y ∈ cs → Names y q → q < rin.length)
    (hl : vs.length = args.length) (ha : ∀ (i : Nat) (x : AV), args[i]? = some x → ∃ v, vs[i]? = some v ∧ Rep W D β v x ∧ ∀ q, Names x q → q < rin.length) (hnt : args.length ≤ nt) :
    St ⟨W, D, fun b => ∃ r, Live rin r ∧ β r = some b, n, β, rin.length⟩ nt ⟨enT 0 args, rin⟩ { tmps := vs.toArray ++ Array.replicate (nt - vs.toArray.size) undef, defers := [] } W D β := by
  refine ⟨⟨hs, rfl, rfl, rfl, Nat.le_refl _, fun _ _ _ => rfl, Keeps.refl W, fun _ _ h => h, fun _ _ _ h => h, fun _ _ h => .inl h, fun _ _ h => .inl h, fun r g h1 h2 => .inr ⟨r, h1, h2⟩, hlt, hsep, fun _ _ => rfl, Nat.le_refl _⟩, fun i => ?_, fun i q hq => ?_, hbx, rfl, by simp; omega⟩
  · rw [tv_enT]
    simp only [Nat.not_lt_zero, if_false, Nat.sub_zero]
    cases hx : args[i]? with
    | none => exact .undef _
    | some x =>
      obtain ⟨v, h1, h2, _⟩ := ha i x hx
      have hi : i < vs.length := (List.getElem?_eq_some_iff.1 h1).1
      have : (vs.toArray ++ Array.replicate (nt - vs.toArray.size) undef).getD i undef = v := by
        rw [Array.getD_eq_getD_getElem?, Array.getElem?_append_left (by simpa using hi)]
        simp [h1]
      rw [this]
      exact h2
  · rw [tv_enT] at hq
    simp only [Nat.not_lt_zero, if_false, Nat.sub_zero] at hq
    cases hx : args[i]? with
    | none => rw [hx] at hq; cases hq
    | some x =>
      rw [hx] at hq
      obtain ⟨v, _, _, h3⟩ := ha i x hx
      exact h3 q hq

theorem slimF_some {fn : Func} {s : SCode} {rs : List RV} {nt : Nat} (h : slimF fn = some (s, rs, nt)) : ∃ c, fn.body = some c ∧ slim c = some s ∧ resOf fn = some rs ∧ fn.ntmps = nt := by
  unfold slimF at h
  cases hb : fn.body with
  | none => simp [hb] at h
  | some c =>
    rw [hb] at h
    simp only at h
    split at h
    · rename_i s' rs' h1 h2
      simp only [Option.some.injEq, Prod.mk.injEq] at h
      obtain ⟨rfl, rfl, rfl⟩ := h
      exact ⟨c, rfl, h1, h2, rfl⟩
    · cases h

theorem Pure.of_body {f : FuncId} {fn : Func} {sem : Fsem} {T : List (Nat × Fsem)} {s : SCode} {rs : List RV} {nt : Nat} (hT : Table P T) (hm : P.follows .mixedOrders = true) (hf : P.funcs[f]? = some fn) (hsl : slimF fn = some (s, rs, nt)) (ho : okF T fn = true)
    (h : ∀ (n : Nat) (args : List AV), 2 ≤ n → (sem n args).c → args.length ≤ nt ∧ vc P n 0 T s (retP P n rs (sem n args).v) ⟨enT 0 args, []⟩) : Pure P f sem := by
  intro n args h2 hc
  obtain ⟨hnt, hv⟩ := h n args h2 hc
  obtain ⟨c, hb, hs, hr, rfl⟩ := slimF_some hsl
  refine ⟨enters_of hf ho, fun W D β vs hn0 hst hlt hsep hbx hl ha => ?_⟩
  simp only [okF, Bool.and_eq_true, hb] at ho
  have hstart := body_start (n := n) hst hlt hsep hbx hl ha hnt
  refine calls_of_wp hf hb (wp_mono (vc_ok hT h2 hm s _ _ hv c _ fn.ntmps _ W D β hs ho.2 hn0 (Nat.le_refl _) (Nat.le_refl _) hstart) ?_)
  rintro x a' W' ⟨e', D', β', hq, hst'⟩
  have fin : (resAV P e' rs).c ∧ (embT e'.st n (resAV P e' rs).v).c ∧ Nz false (embT e'.st n (resAV P e' rs).v).v ∧ (embT e'.st n (resAV P e' rs).v).v = (sem n args).v → bodyPost P fn (fun e W' => ∃ v D' β', e = .returned v ∧ MemOk ⟨W, D, fun b => ∃ r, Live ([] : List Root) r ∧ β r = some b, n, β, ([] : List Root).length⟩ W' D' β' [] ∧
      (∀ r R, ([] : List Root)[r]? = some R → RootOk W' (noz D') β' r R) ∧ (∀ (r t : Nat) (cs : List AV) (y : AV) (q : Nat), ([] : List Root)[r]? = some (Root.box t cs) → y ∈ cs → Names y q → q < ([] : List Root).length) ∧
      Rep W' (noz D') β' v (sem n args).v ∧ ∀ q, Names (sem n args).v q → q < ([] : List Root).length) .ret a' W' := by
    rintro ⟨q0, q1, q2, q3⟩
    obtain ⟨v, v1, v2⟩ := results_run (P := P) hr hst' q0
    refine ⟨hst'.dd, v, v1, ?_⟩
    obtain ⟨D2, d1, d2, d3⟩ := hst'.freezes (m := n) (Nat.le_refl _) (embT e'.st n (resAV P e' rs).v).rs e'.st (embT_rows q1) (fun _ _ => .inl rfl)
    have hrep := embT_ok (D' := D2) hst'.mem.store.root d1 d2 v2 q1
    rw [q3] at hrep q2
    refine ⟨v, D2, β', rfl, ?_, fun r R hr => by simp at hr, fun r t cs y q hr => by simp at hr, hrep.noz q2, fun q hq => (q2.noNames q hq).elim⟩
    have hM := d3.mem
    exact ⟨⟨fun r R hr => by simp at hr, fun r r' g h1 => by obtain ⟨R, h1, _⟩ := h1; simp at h1, fun r g ρ h1 => by obtain ⟨R, h1, _⟩ := h1; simp at h1⟩, hM.os, hM.tape, hM.output, hM.size, hM.frame, hM.keeps, hM.dup, hM.dfix, hM.dnew, hM.thaw, fun r g h1 => by obtain ⟨R, h1, _⟩ := h1; simp at h1, hM.lt, hM.sep, hM.hand, Nat.zero_le _⟩
  cases x
  case normal => exact fin hq
  case ret => exact fin hq
  all_goals exact hq.elim

theorem SatM.of_body {f : FuncId} {fn : Func} {T : List (Nat × Fsem)} {s : SCode} {rs : List RV} {nt n : Nat} {rin rout : List Root} {args : List AV} {r : AV} (hT : Table P T) (hm : P.follows .mixedOrders = true) (hf : P.funcs[f]? = some fn) (hsl : slimF fn = some (s, rs, nt)) (ho : okF T fn = true) (h2 : 2 ≤ n) (hnt : args.length ≤ nt)
    (ρ : List Nat) (hv : vc P n rin.length T s (retM P rin.length rs ρ rout r) ⟨enT 0 args, rin⟩) : SatM P n f rin args rout r := by
  obtain ⟨c, hb, hs, hr, rfl⟩ := slimF_some hsl
  refine ⟨enters_of hf ho, fun W D β vs hn0 hst hlt hsep hbx hl ha => ?_⟩
  simp only [okF, Bool.and_eq_true, hb] at ho
  have hstart := body_start (n := n) hst hlt hsep hbx hl ha hnt
  refine calls_of_wp hf hb (wp_mono (vc_ok hT h2 hm s _ _ hv c _ fn.ntmps _ W D β hs ho.2 hn0 (Nat.le_refl _) (Nat.le_refl _) hstart) ?_)
  rintro x a' W' ⟨e', D', β', hq, hst'⟩
  have fin : ((resAV P e' rs).c ∧ ρ.Nodup ∧ (∀ p < rin.length, ρ[p]? = some p) ∧ (∀ r ∈ ρ, r < e'.st.length) ∧ rout = rinOf e'.st ρ ∧ r = (resAV P e' rs).v.rnp (posOf ρ) ∧ (∀ R ∈ rout, Rz R) ∧ Nz true r) → bodyPost P fn (fun e W' => ∃ v D' β', e = .returned v ∧ MemOk ⟨W, D, fun b => ∃ r, Live rin r ∧ β r = some b, n, β, rin.length⟩ W' D' β' rout ∧
      (∀ r R, rout[r]? = some R → RootOk W' (noz D') β' r R) ∧ (∀ (r t : Nat) (cs : List AV) (y : AV) (q : Nat), rout[r]? = some (Root.box t cs) → y ∈ cs → Names y q → q < rout.length) ∧
      Rep W' (noz D') β' v r ∧ ∀ q, Names r q → q < rout.length) .ret a' W' := by
    rintro ⟨q0, q1, q2, q3, rfl, rfl, q6, q7⟩
    obtain ⟨v, v1, v2⟩ := results_run (P := P) hr hst' q0
    refine ⟨hst'.dd, v, v1, ?_⟩
    have hM := hst'.mem.rin q1 q2 q3
    refine ⟨v, D', handβ β' ρ, rfl, hM, fun p R hp => (hM.store.root p R hp).noz (q6 R (List.mem_of_getElem? hp)), fun p t cs y q hp hy hq => ?_, (rnp_ok (fun _ _ h => h) v2).noz q7, fun q hq => by simpa [rinOf] using rnp_names hq⟩
    obtain ⟨p', _, hR⟩ := rinOf_get hp
    generalize e'.st.getD p' .gone = R0 at hR
    cases R0 <;> simp [Root.rnp] at hR
    obtain ⟨_, rfl⟩ := hR
    obtain ⟨c, _, rfl⟩ := List.mem_map.1 hy
    simpa [rinOf] using rnp1_names hq
  cases x
  case normal => exact fin hq
  case ret => exact fin hq
  all_goals exact hq.elim
end
end Go.Ve
