/- The texts of this claim, part PD 4: the engine that runs the code on values, the data, the contracts. No condition. -/
import Derived.Test.YtidfijaobkaalaaGreatPD3
namespace Go.Ve
open Go.RowKit
set_option linter.unusedVariables false
set_option linter.unusedSimpArgs false
/-- Leans on no lent memory; rt: roots may be named. -/
inductive Nz (rt : Bool) : AV → Prop
  | undef : Nz rt .undef
  | int (k : IntKind) (n : Int) : Nz rt (.int k n)
  | bool (b : Bool) : Nz rt (.bool b)
  | str (s : ByteArray) : Nz rt (.str s)
  | nilp : Nz rt .nilp
  | nils : Nz rt .nils
  | nili : Nz rt .nili
  | ifc (t : TypeId) (v : AV) (h : Nz rt v) : Nz rt (.ifc t v)
  | sle (τ w : Nat) : Nz rt (.sl τ w [])
  | sl (τ w : Nat) (xs : List AV) (hτ : τ ≠ 0) (h : ∀ (i : Nat) (x : AV) (j : Nat) (y : AV), xs[i]? = some x → x.cells[j]? = some y → Nz rt y) : Nz rt (.sl τ w xs)
  | dptr (τ : Nat) (cs : List AV) (hτ : τ ≠ 0) (h : ∀ (j : Nat) (y : AV), cs[j]? = some y → Nz rt y) : Nz rt (.dptr τ cs)
  | fn (f : FuncId) (cs : List AV) (h : ∀ (j : Nat) (y : AV), cs[j]? = some y → Nz rt y) : Nz rt (.fn f cs)
  | agg (cs : List AV) (h : ∀ (j : Nat) (y : AV), cs[j]? = some y → Nz rt y) : Nz rt (.agg cs)
  | tup (cs : List AV) (h : ∀ (j : Nat) (y : AV), cs[j]? = some y → Nz rt y) : Nz rt (.tup cs)
  | osl (r w off len : Nat) (h : rt = true) : Nz rt (.osl r w off len)
  | ptr (r w i j : Nat) (h : rt = true) : Nz rt (.ptr r w i j)
  | map (r : Nat) (h : rt = true) : Nz rt (.map r)
section
variable {rt : Bool}
theorem forall_get {cs : List AV} {p : AV → Prop} : (∀ (j : Nat) (y : AV), cs[j]? = some y → p y) ↔ ∀ y ∈ cs, p y :=
  ⟨fun h y hy => let ⟨j, hj⟩ := List.mem_iff_getElem?.1 hy; h j y hj, fun h j y hj => h y (List.mem_of_getElem? hj)⟩
theorem nz_undef : Nz rt .undef ↔ True := ⟨fun _ => trivial, fun _ => .undef⟩
theorem nz_int {k : IntKind} {n : Int} : Nz rt (.int k n) ↔ True := ⟨fun _ => trivial, fun _ => .int ..⟩
theorem nz_bool {b : Bool} : Nz rt (.bool b) ↔ True := ⟨fun _ => trivial, fun _ => .bool ..⟩
theorem nz_str {s : ByteArray} : Nz rt (.str s) ↔ True := ⟨fun _ => trivial, fun _ => .str ..⟩
theorem nz_nilp : Nz rt .nilp ↔ True := ⟨fun _ => trivial, fun _ => .nilp⟩
theorem nz_nils : Nz rt .nils ↔ True := ⟨fun _ => trivial, fun _ => .nils⟩
theorem nz_nili : Nz rt .nili ↔ True := ⟨fun _ => trivial, fun _ => .nili⟩
theorem nz_ifc {t : TypeId} {v : AV} : Nz rt (.ifc t v) ↔ Nz rt v := ⟨fun h => by cases h with | ifc _ _ h => exact h, fun h => .ifc _ _ h⟩
theorem nz_sl {τ w : Nat} {xs : List AV} : Nz rt (.sl τ w xs) ↔ xs = [] ∨ (τ ≠ 0 ∧ ∀ x ∈ xs, ∀ y ∈ x.cells, Nz rt y) := by
  constructor
  · intro h
    cases h with
    | sle => exact .inl rfl
    | sl _ _ _ hτ h => exact .inr ⟨hτ, fun x hx y hy => by
      obtain ⟨i, hi⟩ := List.mem_iff_getElem?.1 hx
      obtain ⟨j, hj⟩ := List.mem_iff_getElem?.1 hy
      exact h i x j y hi hj⟩
  · rintro (rfl | ⟨h1, h2⟩)
    · exact .sle ..
    · exact .sl _ _ _ h1 fun i x j y hi hj => h2 x (List.mem_of_getElem? hi) y (List.mem_of_getElem? hj)
theorem nz_dptr {τ : Nat} {cs : List AV} : Nz rt (.dptr τ cs) ↔ τ ≠ 0 ∧ ∀ y ∈ cs, Nz rt y :=
  ⟨fun h => by cases h with | dptr _ _ hτ h => exact ⟨hτ, forall_get.1 h⟩, fun h => .dptr _ _ h.1 (forall_get.2 h.2)⟩
theorem nz_fn {f : FuncId} {cs : List AV} : Nz rt (.fn f cs) ↔ ∀ y ∈ cs, Nz rt y := ⟨fun h => by cases h with | fn _ _ h => exact forall_get.1 h, fun h => .fn _ _ (forall_get.2 h)⟩
theorem nz_agg {cs : List AV} : Nz rt (.agg cs) ↔ ∀ y ∈ cs, Nz rt y := ⟨fun h => by cases h with | agg _ h => exact forall_get.1 h, fun h => .agg _ (forall_get.2 h)⟩
theorem nz_tup {cs : List AV} : Nz rt (.tup cs) ↔ ∀ y ∈ cs, Nz rt y := ⟨fun h => by cases h with | tup _ h => exact forall_get.1 h, fun h => .tup _ (forall_get.2 h)⟩
theorem nz_osl {r w off len : Nat} : Nz rt (.osl r w off len) ↔ rt = true := ⟨fun h => by cases h with | osl _ _ _ _ h => exact h, fun h => .osl _ _ _ _ h⟩
theorem nz_ptr {r w i j : Nat} : Nz rt (.ptr r w i j) ↔ rt = true := ⟨fun h => by cases h with | ptr _ _ _ _ h => exact h, fun h => .ptr _ _ _ _ h⟩
theorem nz_map {r : Nat} : Nz rt (.map r) ↔ rt = true := ⟨fun h => by cases h with | map _ h => exact h, fun h => .map _ h⟩
variable {W : World} {D : Nat → Nat → Prop} {β : Nat → Option Nat}
theorem RepD.noz {v : Value} {x : AV} (h : RepD W D v x) : Nz rt x → RepD W (noz D) v x := by
  induction h with
  | int => exact fun _ => .int ..
  | bool => exact fun _ => .bool ..
  | str => exact fun _ => .str ..
  | nilp => exact fun _ => .nilp
  | nils => exact fun _ => .nils
  | nili => exact fun _ => .nili
  | undef v h => exact fun _ => .undef v h
  | leaf v h => exact fun _ => .leaf v h
  | ifc t u v _ ih => intro hz; cases hz with | ifc _ _ hz => exact .ifc t u v (ih hz)
  | sl0 => exact fun _ => .sl0 ..
  | sl a cap τ w xs u hs hD hc hm hw hu _ ih =>
    intro hz
    cases hz with
    | sle => exact .sl0 ..
    | sl _ _ _ hτ hz => exact .sl a cap τ w xs u hs ⟨hτ, hD⟩ hc hm hw hu fun i x j y hx hy => ih i x j y hx hy (hz i x j y hx hy)
  | dptr a τ cs u hs hD hu _ ih => intro hz; cases hz with | dptr _ _ hτ hz => exact .dptr a τ cs u hs ⟨hτ, hD⟩ hu fun j y hy => ih j y hy (hz j y hy)
  | fn f vs caps u hl hu _ ih => intro hz; cases hz with | fn _ _ hz => exact .fn f vs caps u hl hu fun i y hy => ih i y hy (hz i y hy)
theorem Rep.noz {v : Value} {x : AV} (h : Rep W D β v x) : Nz rt x → Rep W (noz D) β v x := by
  induction h with
  | undef v => exact fun _ => .undef v
  | data v x hd => exact fun hz => .data v x (hd.noz hz)
  | osl v r w off len ho => exact fun _ => .osl v r w off len ho
  | ptr r w i j g hg => exact fun _ => .ptr r w i j g hg
  | map r g hg => exact fun _ => .map r g hg
  | fn f vs caps u hl hu _ ih => intro hz; cases hz with | fn _ _ hz => exact .fn f vs caps u hl hu fun i y hy => ih i y hy (hz i y hy)
  | agg vs cs u hl hu ho _ ih => intro hz; cases hz with | agg _ hz => exact .agg vs cs u hl hu ho fun i y hy => ih i y hy (hz i y hy)
  | tup vs cs u hl hu _ ih => intro hz; cases hz with | tup _ hz => exact .tup vs cs u hl hu fun i y hy => ih i y hy (hz i y hy)
  | gd => intro hz; cases hz
theorem Nz.noNames {x : AV} (h : Nz false x) : ∀ q, ¬ Names x q := by
  induction h with
  | fn f cs _ ih => intro q hn; cases hn with | fn _ _ y _ hy hq => obtain ⟨j, hj⟩ := List.mem_iff_getElem?.1 hy; exact ih j y hj q hq
  | agg cs _ ih => intro q hn; cases hn with | agg _ y _ hy hq => obtain ⟨j, hj⟩ := List.mem_iff_getElem?.1 hy; exact ih j y hj q hq
  | tup cs _ ih => intro q hn; cases hn with | tup _ y _ hy hq => obtain ⟨j, hj⟩ := List.mem_iff_getElem?.1 hy; exact ih j y hj q hq
  | osl _ _ _ _ h => cases h
  | ptr _ _ _ _ h => cases h
  | map _ h => cases h
  | _ => intro q hn; cases hn
end
/-- Roots that lean on no lent memory. -/
def Rz : Root → Prop
  | .gone => True
  | .row _ _ xs => ∀ x ∈ xs, ∀ y ∈ x.cells, Nz true y
  | .box _ cs => ∀ y ∈ cs, Nz true y
  | .mp kv => ∀ p ∈ kv, Nz true p.1 ∧ Nz true p.2
section
variable {P : Program} {C : Ctx} {sz : Nat} {e : Env} {a : Act} {W : World} {D : Nat → Nat → Prop} {β : Nat → Option Nat}
theorem RootOk.noz {r : Nat} {R : Root} (h : RootOk W D β r R) (hz : Rz R) : RootOk W (noz D) β r R := by
  cases R with
  | gone => trivial
  | row t w xs =>
    rcases h with h | ⟨g, cur, h1, h2, h3⟩
    · exact .inl h
    · exact .inr ⟨g, cur, h1, h2, fun i x hx => ⟨(h3 i x hx).1, fun j y hy => let ⟨u, u1, u2⟩ := (h3 i x hx).2 j y hy; ⟨u, u1, u2.noz (hz x (List.mem_of_getElem? hx) y (List.mem_of_getElem? hy))⟩⟩⟩
  | box t cs =>
    obtain ⟨g, cur, h1, h2, h3, h4⟩ := h
    exact ⟨g, cur, h1, h2, h3, fun j y hy => let ⟨u, u1, u2, u3⟩ := h4 j y hy; ⟨u, u1, u2, u3.noz (hz y (List.mem_of_getElem? hy))⟩⟩
  | mp kv =>
    obtain ⟨g, es, clk, h1, h2, h3, h4⟩ := h
    exact ⟨g, es, clk, h1, h2, h3, fun i k x hx => let ⟨e0, e1, e2, e3⟩ := h4 i k x hx; ⟨e0, e1, e2.noz (hz _ (List.mem_of_getElem? hx)).1, e3.noz (hz _ (List.mem_of_getElem? hx)).2⟩⟩
/-- An embedded value is one. -/
theorem embR_ok {st : List Root} {m : Nat} {D' : Nat → Nat → Prop} {v : Value} {x : AV} (hs : ∀ r R, st[r]? = some R → RootOk W D β r R) (hD : ∀ ρ b, D ρ b → D' ρ b) (hr : ∀ r ∈ (emb st m x).rs, ∀ g, β r = some g → D' m g) (h : Rep W D β v x) (hc : (emb st m x).c) : Rep W D' β v (emb st m x).v := by
  cases x
  case agg cs =>
    simp only [emb] at hc hr ⊢
    cases h with
    | data _ _ hd => cases hd
    | agg vs _ u hl hu ho hv =>
      refine .agg vs _ u (by simpa using hl) (fun i y hy => ?_) (fun i y hy => ?_) (fun i y hy => ?_)
      all_goals
        rw [List.getElem?_map, Option.map_eq_some_iff] at hy
        obtain ⟨c, hc1, rfl⟩ := hy
      · exact hu i c hc1
      · exact ho i c hc1
      · exact .data _ _ (emb0_ok hs hD (fun r hr0 => hr r (List.mem_flatMap.2 ⟨c, List.mem_of_getElem? hc1, hr0⟩)) (hv i c hc1) (hc c (List.mem_of_getElem? hc1)))
  all_goals exact .data _ _ (emb0_ok hs hD hr h hc)
def embT (st : List Root) (m : Nat) : AV → EmbR
  | .tup cs => ⟨∀ c ∈ cs, (emb st m c).c, .tup (cs.map fun c => (emb st m c).v), cs.flatMap fun c => (emb st m c).rs⟩
  | x => emb st m x
theorem embT_rows {st : List Root} {m : Nat} {x : AV} (hc : (embT st m x).c) : ∀ r ∈ (embT st m x).rs, ∃ t w xs, st[r]? = some (.row t w xs) := by
  cases x
  case tup cs =>
    intro r hr
    simp only [embT, List.mem_flatMap] at hr
    obtain ⟨c, h1, h2⟩ := hr
    exact emb_rows (hc c h1) r h2
  all_goals exact emb_rows hc
theorem embT_ok {st : List Root} {m : Nat} {D' : Nat → Nat → Prop} {v : Value} {x : AV} (hs : ∀ r R, st[r]? = some R → RootOk W D β r R) (hD : ∀ ρ b, D ρ b → D' ρ b) (hr : ∀ r ∈ (embT st m x).rs, ∀ g, β r = some g → D' m g) (h : Rep W D β v x) (hc : (embT st m x).c) : Rep W D' β v (embT st m x).v := by
  cases x
  case tup cs =>
    simp only [embT] at hc hr ⊢
    cases h with
    | data _ _ hd => cases hd
    | tup vs _ u hl hu hv =>
      refine .tup vs _ u (by simpa using hl) (fun i y hy => ?_) (fun i y hy => ?_)
      all_goals
        rw [List.getElem?_map, Option.map_eq_some_iff] at hy
        obtain ⟨c, hc1, rfl⟩ := hy
      · exact hu i c hc1
      · exact embR_ok hs hD (fun r hr0 => hr r (List.mem_flatMap.2 ⟨c, List.mem_of_getElem? hc1, hr0⟩)) (hv i c hc1) (hc c (List.mem_of_getElem? hc1))
  all_goals exact embR_ok hs hD hr h hc
inductive RV where
  | t (n : Nat)
  | c (a ty : Nat)
def rvOf : ResultVar → RV
  | .tmp t => .t t
  | .cell a t => .c a t
def resOf (fn : Func) : Option (List RV) :=
  match fn.results.toList with
  | [] => some []
  | [x] => some [rvOf x]
  | [x, y] => some [rvOf x, rvOf y]
  | [x, y, z] => some [rvOf x, rvOf y, rvOf z]
  | _ => none
def rvV (P : Program) (e : Env) : RV → OpR
  | .t n => ⟨True, tv e.tm n⟩
  | .c a t => ⟨(behind e.st (tv e.tm a)).1 ∧ (ldv P t (behind e.st (tv e.tm a)).2).c, (ldv P t (behind e.st (tv e.tm a)).2).v⟩
def resAV (P : Program) (e : Env) : List RV → OpR
  | [r] => rvV P e r
  | rs => ⟨∀ r ∈ rs, (rvV P e r).c, .tup (rs.map fun r => (rvV P e r).v)⟩
/-- A function in few words: its code, its results, the number of its temporaries. -/
def slimF (fn : Func) : Option (SCode × List RV × Nat) :=
  match fn.body with
  | none => none
  | some c => match slim c, resOf fn with
    | some s, some rs => some (s, rs, fn.ntmps)
    | _, _ => none
def okF (T : List (Nat × Fsem)) (fn : Func) : Bool :=
  (fn.name != "runtime.NumGoroutine") && (match fn.body with
    | none => false
    | some c => okC T fn.ntmps c)
def enT : Nat → List AV → List (Nat × AV)
  | _, [] => []
  | i, x :: xs => (i, x) :: enT (i + 1) xs
theorem tv_enT : ∀ (xs : List AV) (i t : Nat), tv (enT i xs) t = if t < i then .undef else (xs[t - i]?).getD .undef
  | [], i, t => by simp [enT, tv]
  | x :: xs, i, t => by
    simp only [enT, tv, tv_enT xs (i + 1) t]
    by_cases h : i = t
    · subst h; simp
    · rw [if_neg h]
      by_cases h2 : t < i
      · rw [if_pos h2, if_pos (by omega)]
      · rw [if_neg h2, if_neg (by omega)]
        have : t - i = (t - (i + 1)) + 1 := by omega
        rw [this, List.getElem?_cons_succ]
/-- One result. -/
def oneRes (tmps : Array Value) : ResultVar → Sem Value
  | .tmp t => pure (tmps.getD t undef)
  | .cell a t => do loadVar t (← asAddr (tmps.getD a undef))
theorem results_eq (fn : Func) (tmps : Array Value) : results fn tmps = (do
    let vs ← fn.results.mapM (oneRes tmps)
    pure (if h : vs.size = 1 then vs[0] else .tuple vs)) := by
  unfold results
  congr 1
theorem oneRes_ok (hs : St C sz e a W D β) {r : ResultVar} (hc : (rvV P e (rvOf r)).c) : ∃ v, (oneRes a.tmps r).run P W = .ok v W ∧ Rep W D β v (rvV P e (rvOf r)).v := by
  cases r with
  | tmp t => exact ⟨_, rfl, hs.tm t⟩
  | cell ad t =>
    obtain ⟨h1, h2⟩ := hc
    have hb := behind_ok hs.mem.store.root (hs.tm ad) h1
    obtain ⟨u, k1, k2⟩ := load_ok (P := P) hb h2
    obtain ⟨g, off, hv, _⟩ := hb
    refine ⟨u, ?_, k2⟩
    rw [hv] at k1
    simp only [oneRes, hv, asAddr, Sem.run_bind, Sem.run_pure, Result.andThen_ok]
    simpa [Instr.loadAt, Instr.sureAddr] using k1
theorem results_run {fn : Func} {rs : List RV} (h : resOf fn = some rs) (hs : St C sz e a W D β) (hc : (resAV P e rs).c) : ∃ v, (results fn a.tmps).run P W = .ok v W ∧ Rep W D β v (resAV P e rs).v := by
  unfold resOf at h
  rw [results_eq]
  split at h
  · rename_i hr
    injection h with h; subst h
    have hr' : fn.results = #[] := by rw [← Array.toList_inj, hr]
    exact ⟨.tuple #[], by simp [hr'], .tup _ _ (fun _ => undef) rfl (fun i y hy => by simp at hy) (fun i y hy => by simp at hy)⟩
  · rename_i x hr
    injection h with h; subst h
    have hr' : fn.results = #[x] := by rw [← Array.toList_inj, hr]
    obtain ⟨v, v1, v2⟩ := oneRes_ok (r := x) hs hc
    exact ⟨v, by simp [hr', v1], v2⟩
  · rename_i x y hr
    injection h with h; subst h
    have hr' : fn.results = #[x, y] := by rw [← Array.toList_inj, hr]
    simp only [resAV, List.mem_cons, List.not_mem_nil, or_false, forall_eq_or_imp, forall_eq] at hc
    obtain ⟨v, v1, v2⟩ := oneRes_ok (r := x) hs hc.1
    obtain ⟨u, u1, u2⟩ := oneRes_ok (r := y) hs hc.2
    refine ⟨.tuple #[v, u], by simp [hr', v1, u1], .tup _ _ (fun i => [v, u].getD i undef) rfl (fun i z hz => ?_) (fun i z hz => ?_)⟩
    all_goals
      rcases i with _ | _ | i <;> simp at hz
      all_goals subst hz
    · rfl
    · rfl
    · exact v2
    · exact u2
  · rename_i x y z hr
    injection h with h; subst h
    have hr' : fn.results = #[x, y, z] := by rw [← Array.toList_inj, hr]
    simp only [resAV, List.mem_cons, List.not_mem_nil, or_false, forall_eq_or_imp, forall_eq] at hc
    obtain ⟨v, v1, v2⟩ := oneRes_ok (r := x) hs hc.1
    obtain ⟨u, u1, u2⟩ := oneRes_ok (r := y) hs hc.2.1
    obtain ⟨w, w1, w2⟩ := oneRes_ok (r := z) hs hc.2.2
    refine ⟨.tuple #[v, u, w], by simp [hr', v1, u1, w1], .tup _ _ (fun i => [v, u, w].getD i undef) rfl (fun i z hz => ?_) (fun i z hz => ?_)⟩
    all_goals
      rcases i with _ | _ | _ | i <;> simp at hz
      all_goals subst hz
    · rfl
    · rfl
    · rfl
    · exact v2
    · exact u2
    · exact w2
  · cases h
/-- What a function without effect owes at its end. -/
def retP (P : Program) (n : Nat) (rs : List RV) (r : AV) : Exit → Env → Prop
  | .ret, e | .normal, e => (resAV P e rs).c ∧ (embT e.st n (resAV P e rs).v).c ∧ Nz false (embT e.st n (resAV P e rs).v).v ∧ (embT e.st n (resAV P e rs).v).v = r
  | _, _ => False
/-- What a function owes at its end: the roots that it hands back stand in ρ. -/
def retM (P : Program) (k : Nat) (rs : List RV) (ρ : List Nat) (rout : List Root) (r : AV) : Exit → Env → Prop
  | .ret, e | .normal, e => (resAV P e rs).c ∧ ρ.Nodup ∧ (∀ p < k, ρ[p]? = some p) ∧ (∀ r ∈ ρ, r < e.st.length) ∧ rout = rinOf e.st ρ ∧ r = (resAV P e rs).v.rnp (posOf ρ) ∧ (∀ R ∈ rout, Rz R) ∧ Nz true r
  | _, _ => False
theorem enters_of {f : FuncId} {fn : Func} {T : List (Nat × Fsem)} (hf : P.funcs[f]? = some fn) (ho : okF T fn = true) : Enters P f := by
  intro args W
  simp only [okF, Bool.and_eq_true] at ho
  have hb : ¬ fn.body = none := by
    intro h
    rw [h] at ho
    exact absurd ho.2 (by simp)
  have hn : ¬ fn.name = "runtime.NumGoroutine" := by simpa using ho.1
  simp [callFunc, hf, hb, hn]
theorem body_start {rin : List Root} {args : List AV} {vs : List Value} {n nt : Nat} (hs : StoreOk W D β rin) (hlt : ∀ ρ b, D ρ b → b < W.heap.size) (hsep : ∀ ρ ρ' b, D ρ b → D ρ' b → ρ = ρ')
    (hbx : ∀ (r t : Nat) (cs : List AV) (y : AV) (q : Nat), rin[r]? = some (Root.box t cs) → y ∈ cs → Names y q → q < rin.length)
    (hl : vs.length = args.length) (ha : ∀ (i : Nat) (x : AV), args[i]? = some x → ∃ v, vs[i]? = some v ∧ Rep W D β v x ∧ ∀ q, Names x q → q < rin.length) (hnt : args.length ≤ nt) :
    St ⟨W, D, fun b => ∃ r, Live rin r ∧ β r = some b, n, β, rin.length⟩ nt ⟨enT 0 args, rin⟩ { tmps := vs.toArray ++ Array.replicate (nt - vs.toArray.size) undef, defers := [] } W D β := by
  refine ⟨⟨hs, rfl, rfl, rfl, Nat.le_refl _, fun _ _ _ => rfl, Keeps.refl W, fun _ _ h => h, fun _ _ _ h => h, fun _ _ h => .inl h, fun _ _ h => .inl h, fun r g h1 h2 => .inr ⟨r, h1, h2⟩, hlt, hsep, fun _ _ => rfl, Nat.le_refl _⟩, fun i => ?_, fun i q hq => ?_, hbx, rfl, by simp; omega⟩
  · rw [tv_enT]
    simp only [Nat.not_lt_zero, if_false, Nat.sub_zero]
    cases hx : args[i]? with
    | none => exact .undef _
    | some x =>
      obtain ⟨v, h1, h2, _⟩ := ha i x hx
      have hi : i < vs.length := (List.getElem?_eq_some_iff.1 h1).1
      have : (vs.toArray ++ Array.replicate (nt - vs.toArray.size) undef).getD i undef = v := by
        rw [Array.getD_eq_getD_getElem?, Array.getElem?_append_left (by simpa using hi)]
        simp [h1]
      rw [this]
      exact h2
  · rw [tv_enT] at hq
    simp only [Nat.not_lt_zero, if_false, Nat.sub_zero] at hq
    cases hx : args[i]? with
    | none => rw [hx] at hq; cases hq
    | some x =>
      rw [hx] at hq
      obtain ⟨v, _, _, h3⟩ := ha i x hx
      exact h3 q hq
theorem slimF_some {fn : Func} {s : SCode} {rs : List RV} {nt : Nat} (h : slimF fn = some (s, rs, nt)) : ∃ c, fn.body = some c ∧ slim c = some s ∧ resOf fn = some rs ∧ fn.ntmps = nt := by
  unfold slimF at h
  cases hb : fn.body with
  | none => simp [hb] at h
  | some c =>
    rw [hb] at h
    simp only at h
    split at h
    · rename_i s' rs' h1 h2
      simp only [Option.some.injEq, Prod.mk.injEq] at h
      obtain ⟨rfl, rfl, rfl⟩ := h
      exact ⟨c, rfl, h1, h2, rfl⟩
    · cases h
theorem Pure.of_body {f : FuncId} {fn : Func} {sem : Fsem} {T : List (Nat × Fsem)} {s : SCode} {rs : List RV} {nt : Nat} (hT : Table P T) (hm : P.follows .mixedOrders = true) (hf : P.funcs[f]? = some fn) (hsl : slimF fn = some (s, rs, nt)) (ho : okF T fn = true)
    (h : ∀ (n : Nat) (args : List AV), 2 ≤ n → (sem n args).c → args.length ≤ nt ∧ vc P n 0 T s (retP P n rs (sem n args).v) ⟨enT 0 args, []⟩) : Pure P f sem := by
  intro n args h2 hc
  obtain ⟨hnt, hv⟩ := h n args h2 hc
  obtain ⟨c, hb, hs, hr, rfl⟩ := slimF_some hsl
  refine ⟨enters_of hf ho, fun W D β vs hn0 hst hlt hsep hbx hl ha => ?_⟩
  simp only [okF, Bool.and_eq_true, hb] at ho
  have hstart := body_start (n := n) hst hlt hsep hbx hl ha hnt
  refine calls_of_wp hf hb (wp_mono (vc_ok hT h2 hm s _ _ hv c _ fn.ntmps _ W D β hs ho.2 hn0 (Nat.le_refl _) (Nat.le_refl _) hstart) ?_)
  rintro x a' W' ⟨e', D', β', hq, hst'⟩
  have fin : (resAV P e' rs).c ∧ (embT e'.st n (resAV P e' rs).v).c ∧ Nz false (embT e'.st n (resAV P e' rs).v).v ∧ (embT e'.st n (resAV P e' rs).v).v = (sem n args).v → bodyPost P fn (fun e W' => ∃ v D' β', e = .returned v ∧ MemOk ⟨W, D, fun b => ∃ r, Live ([] : List Root) r ∧ β r = some b, n, β, ([] : List Root).length⟩ W' D' β' [] ∧
      (∀ r R, ([] : List Root)[r]? = some R → RootOk W' (noz D') β' r R) ∧ (∀ (r t : Nat) (cs : List AV) (y : AV) (q : Nat), ([] : List Root)[r]? = some (Root.box t cs) → y ∈ cs → Names y q → q < ([] : List Root).length) ∧
      Rep W' (noz D') β' v (sem n args).v ∧ ∀ q, Names (sem n args).v q → q < ([] : List Root).length) .ret a' W' := by
    rintro ⟨q0, q1, q2, q3⟩
    obtain ⟨v, v1, v2⟩ := results_run (P := P) hr hst' q0
    refine ⟨hst'.dd, v, v1, ?_⟩
    obtain ⟨D2, d1, d2, d3⟩ := hst'.freezes (m := n) (Nat.le_refl _) (embT e'.st n (resAV P e' rs).v).rs e'.st (embT_rows q1) (fun _ _ => .inl rfl)
    have hrep := embT_ok (D' := D2) hst'.mem.store.root d1 d2 v2 q1
    rw [q3] at hrep q2
    refine ⟨v, D2, β', rfl, ?_, fun r R hr => by simp at hr, fun r t cs y q hr => by simp at hr, hrep.noz q2, fun q hq => (q2.noNames q hq).elim⟩
    have hM := d3.mem
    exact ⟨⟨fun r R hr => by simp at hr, fun r r' g h1 => by obtain ⟨R, h1, _⟩ := h1; simp at h1, fun r g ρ h1 => by obtain ⟨R, h1, _⟩ := h1; simp at h1⟩, hM.os, hM.tape, hM.output, hM.size, hM.frame, hM.keeps, hM.dup, hM.dfix, hM.dnew, hM.thaw, fun r g h1 => by obtain ⟨R, h1, _⟩ := h1; simp at h1, hM.lt, hM.sep, hM.hand, Nat.zero_le _⟩
  cases x
  case normal => exact fin hq
  case ret => exact fin hq
  all_goals exact hq.elim
theorem SatM.of_body {f : FuncId} {fn : Func} {T : List (Nat × Fsem)} {s : SCode} {rs : List RV} {nt n : Nat} {rin rout : List Root} {args : List AV} {r : AV} (hT : Table P T) (hm : P.follows .mixedOrders = true) (hf : P.funcs[f]? = some fn) (hsl : slimF fn = some (s, rs, nt)) (ho : okF T fn = true) (h2 : 2 ≤ n) (hnt : args.length ≤ nt)
    (ρ : List Nat) (hv : vc P n rin.length T s (retM P rin.length rs ρ rout r) ⟨enT 0 args, rin⟩) : SatM P n f rin args rout r := by
  obtain ⟨c, hb, hs, hr, rfl⟩ := slimF_some hsl
  refine ⟨enters_of hf ho, fun W D β vs hn0 hst hlt hsep hbx hl ha => ?_⟩
  simp only [okF, Bool.and_eq_true, hb] at ho
  have hstart := body_start (n := n) hst hlt hsep hbx hl ha hnt
  refine calls_of_wp hf hb (wp_mono (vc_ok hT h2 hm s _ _ hv c _ fn.ntmps _ W D β hs ho.2 hn0 (Nat.le_refl _) (Nat.le_refl _) hstart) ?_)
  rintro x a' W' ⟨e', D', β', hq, hst'⟩
  have fin : ((resAV P e' rs).c ∧ ρ.Nodup ∧ (∀ p < rin.length, ρ[p]? = some p) ∧ (∀ r ∈ ρ, r < e'.st.length) ∧ rout = rinOf e'.st ρ ∧ r = (resAV P e' rs).v.rnp (posOf ρ) ∧ (∀ R ∈ rout, Rz R) ∧ Nz true r) → bodyPost P fn (fun e W' => ∃ v D' β', e = .returned v ∧ MemOk ⟨W, D, fun b => ∃ r, Live rin r ∧ β r = some b, n, β, rin.length⟩ W' D' β' rout ∧
      (∀ r R, rout[r]? = some R → RootOk W' (noz D') β' r R) ∧ (∀ (r t : Nat) (cs : List AV) (y : AV) (q : Nat), rout[r]? = some (Root.box t cs) → y ∈ cs → Names y q → q < rout.length) ∧
      Rep W' (noz D') β' v r ∧ ∀ q, Names r q → q < rout.length) .ret a' W' := by
    rintro ⟨q0, q1, q2, q3, rfl, rfl, q6, q7⟩
    obtain ⟨v, v1, v2⟩ := results_run (P := P) hr hst' q0
    refine ⟨hst'.dd, v, v1, ?_⟩
    have hM := hst'.mem.rin q1 q2 q3
    refine ⟨v, D', handβ β' ρ, rfl, hM, fun p R hp => (hM.store.root p R hp).noz (q6 R (List.mem_of_getElem? hp)), fun p t cs y q hp hy hq => ?_, (rnp_ok (fun _ _ h => h) v2).noz q7, fun q hq => by simpa [rinOf] using rnp_names hq⟩
    obtain ⟨p', _, hR⟩ := rinOf_get hp
    generalize e'.st.getD p' .gone = R0 at hR
    cases R0 <;> simp [Root.rnp] at hR
    obtain ⟨_, rfl⟩ := hR
    obtain ⟨c, _, rfl⟩ := List.mem_map.1 hy
    simpa [rinOf] using rnp1_names hq
  cases x
  case normal => exact fin hq
  case ret => exact fin hq
  all_goals exact hq.elim
end
end Go.Ve
namespace Go.Ve
open Go.RowKit
set_option linter.unusedVariables false
set_option linter.unusedSimpArgs false
/-- Behind a pointer into a root. -/
def behindR (w i j : Nat) (R : Option Root) : Prop × List AV :=
  match R with
  | some (.box _ cs) => (i = 0, cs.drop j)
  | some (.row _ w' xs) => (w = w' ∧ i < xs.length, (nth xs i).cells.drop j)
  | _ => (False, [])
section
variable {P : Program} {n k : Nat} {T : List (Nat × Fsem)} {K : Env → Prop} {Q : Exit → Env → Prop} {tm : List (Nat × AV)} {st : List Root} {e : Env}
@[congr] theorem vc_congr {s : SCode} {e e' : Env} (h : e = e') : vc P n k T s Q e = vc P n k T s Q e' := by rw [h]
@[congr] theorem VW_congr {s : SCode} {e e' : Env} (h : e = e') : VW P n k T s Q e = VW P n k T s Q e' := by rw [h]
@[congr] theorem vr_congr {l : List SOp} {e e' : Env} (h : e = e') : vr P n T l e K = vr P n T l e' K := by rw [h]
@[congr] theorem vs_congr {o : SOp} {e e' : Env} (h : e = e') : vs P n T o e K = vs P n T o e' K := by rw [h]
@[congr] theorem vopd_congr {d : Option Nat} {op : Op} {e e' : Env} (h : e = e') : vopd P n d op e K = vopd P n d op e' K := by rw [h]
@[congr] theorem vd_congr {B : List (List Nat)} {i : Nat} {l : List SOp} {hist hist' : List (Nat × List Root)} {pend pend' : List (Nat × Op × Option OpR)} {e e' : Env} (h : e = e') (h1 : hist = hist') (h2 : pend = pend') : vd P n T B i l hist pend e K = vd P n T B i l hist' pend' e' K := by rw [h, h1, h2]
@[congr] theorem vcond_congr {v v' : AV} {A B : Prop} (h : v = v') : vcond v A B = vcond v' A B := by rw [h]
@[congr] theorem thenQ_congr {K : Env → Prop} {x x' : Exit} {e e' : Env} (h : x = x') (h' : e = e') : thenQ K Q x e = thenQ K Q x' e' := by rw [h, h']
@[congr] theorem blockQ_congr {id : Nat} {x x' : Exit} {e e' : Env} (h : x = x') (h' : e = e') : blockQ id Q x e = blockQ id Q x' e' := by rw [h, h']
/-- An operation whose value is found. -/
def qK (P : Program) (n : Nat) (d : Option Nat) (op : Op) (q : Option OpR) (e : Env) (K : Env → Prop) : Prop :=
  match q with
  | some r => r.c ∧ K (e.put d r.v)
  | none => vopd P n d op e K
def gK (P : Program) (n : Nat) (d : Option Nat) (op : Op) (g : Option Bool) (q : Option OpR) (e : Env) (K : Env → Prop) : Prop :=
  match g with
  | none => False
  | some g => match q with
    | some r => (g = true → r.c) ∧ K (e.put d (.gd g r.v))
    | none => (g = true → vopd P n d op e K) ∧ (g = false → K (e.put d .undef))
@[congr] theorem qK_congr {d : Option Nat} {op : Op} {q q' : Option OpR} {e e' : Env} (h : q = q') (h' : e = e') : qK P n d op q e K = qK P n d op q' e' K := by rw [h, h']
@[congr] theorem gK_congr {d : Option Nat} {op : Op} {g g' : Option Bool} {q q' : Option OpR} {e e' : Env} (h0 : g = g') (h : q = q') (h' : e = e') : gK P n d op g q e K = gK P n d op g' q' e' K := by rw [h0, h, h']
@[go_sem] theorem vs_one {d : Option Nat} {op : Op} : vs P n T ⟨d, op, none⟩ e K = qK P n d op (qval P n T e op) e K := rfl
@[go_sem] theorem vs_two {d : Option Nat} {op : Op} {t : Nat} {b : Bool} : vs P n T ⟨d, op, some (t, b)⟩ e K = gK P n d op (bitOf (tv e.tm t) b) (qval P n T e op) e K := by
  simp only [vs, vsg, gK]
  cases bitOf (tv e.tm t) b <;> rfl
@[go_sem] theorem qK_some {d : Option Nat} {op : Op} {c : Prop} {v : AV} : qK P n d op (some ⟨c, v⟩) e K = (c ∧ K (e.put d v)) := rfl
@[go_sem] theorem qK_none {d : Option Nat} {op : Op} : qK P n d op none e K = vopd P n d op e K := rfl
@[go_sem] theorem gK_some {d : Option Nat} {op : Op} {c : Prop} {v : AV} {g : Bool} : gK P n d op (some g) (some ⟨c, v⟩) e K = ((g = true → c) ∧ K (e.put d (.gd g v))) := rfl
@[go_sem] theorem gK_none {d : Option Nat} {op : Op} {g : Bool} : gK P n d op (some g) none e K = ((g = true → vopd P n d op e K) ∧ (g = false → K (e.put d .undef))) := rfl
@[go_sem] theorem vr_nil : vr P n T [] e K = K e := rfl
@[go_sem] theorem vr_cons {o : SOp} {l : List SOp} : vr P n T (o :: l) e K = vsF P n T o e fun e' => vr P n T l e' K := rfl
@[congr] theorem vsF_congr {o : SOp} {e e' : Env} (h : e = e') : vsF P n T o e K = vsF P n T o e' K := by rw [h]
/-- A length, and what is known of it. -/
def lK (P : Program) (n : Nat) (d : Option Nat) (c : Prop) (f : Prop) (v : AV) (e : Env) (K : Env → Prop) : Prop := c ∧ (f → K (e.put d v))
@[congr] theorem lK_congr {d : Option Nat} {c c' f f' : Prop} {v v' : AV} {e e' : Env} (h1 : c = c') (h2 : f = f') (h3 : v = v') (h4 : e = e') : lK P n d c f v e K = lK P n d c' f' v' e' K := by rw [h1, h2, h3, h4]
@[go_sem] theorem lK_eq {d : Option Nat} {c f : Prop} {v : AV} : lK P n d c f v e K = (c ∧ (f → K (e.put d v))) := rfl
@[go_sem] theorem vsF_len {d : Option Nat} {x : Operand} {t : Nat} : vsF P n T ⟨d, .call ⟨.builtin .len, #[x], #[t]⟩, none⟩ e K = lK P n d (e.argc x ∧ (vLen P e.st t (e.arg x)).c) (lenFact (e.arg x)) (vLen P e.st t (e.arg x)).v e K := by
  simp only [vsF, lK, and_assoc]
theorem vsF_vs {o : SOp} (h : ∀ a t, o.g = none → o.op = .call ⟨.builtin .len, a, t⟩ → False) : vsF P n T o e K = vs P n T o e K := by
  unfold vsF
  split
  · rename_i x t h1 h2
    exact (h x t h1 h2).elim
  · rfl
@[go_sem] theorem vsF_g {d : Option Nat} {op : Op} {x : Nat × Bool} : vsF P n T ⟨d, op, some x⟩ e K = vs P n T ⟨d, op, some x⟩ e K := vsF_vs fun _ _ h => by cases h
@[go_sem] theorem vsF_move {d : Option Nat} {x : Operand} : vsF P n T ⟨d, .move x, none⟩ e K = vs P n T ⟨d, .move x, none⟩ e K := vsF_vs fun _ _ _ h => by cases h
@[go_sem] theorem vsF_assign {d : Option Nat} {x : Operand} : vsF P n T ⟨d, .assign x, none⟩ e K = vs P n T ⟨d, .assign x, none⟩ e K := vsF_vs fun _ _ _ h => by cases h
@[go_sem] theorem vsF_pick {d : Option Nat} {c a b : Operand} : vsF P n T ⟨d, .pick c a b, none⟩ e K = vs P n T ⟨d, .pick c a b, none⟩ e K := vsF_vs fun _ _ _ h => by cases h
@[go_sem] theorem vsF_load {d : Option Nat} {t : Nat} {a : Operand} : vsF P n T ⟨d, .load t a, none⟩ e K = vs P n T ⟨d, .load t a, none⟩ e K := vsF_vs fun _ _ _ h => by cases h
@[go_sem] theorem vsF_nil {d : Option Nat} {x : Operand} : vsF P n T ⟨d, .nilCheck x, none⟩ e K = vs P n T ⟨d, .nilCheck x, none⟩ e K := vsF_vs fun _ _ _ h => by cases h
@[go_sem] theorem vsF_bin {d : Option Nat} {op : BinOp} {t : Nat} {x y : Operand} {z : Nat} : vsF P n T ⟨d, .binOp op t x y z, none⟩ e K = vs P n T ⟨d, .binOp op t x y z, none⟩ e K := vsF_vs fun _ _ _ h => by cases h
@[go_sem] theorem vsF_un {d : Option Nat} {op : UnOp} {t : Nat} {x : Operand} : vsF P n T ⟨d, .unOp op t x, none⟩ e K = vs P n T ⟨d, .unOp op t x, none⟩ e K := vsF_vs fun _ _ _ h => by cases h
@[go_sem] theorem vsF_conv {d : Option Nat} {s t : Nat} {x : Operand} : vsF P n T ⟨d, .convert s t x, none⟩ e K = vs P n T ⟨d, .convert s t x, none⟩ e K := vsF_vs fun _ _ _ h => by cases h
@[go_sem] theorem vsF_mkf {d : Option Nat} {fn : Fn} {first caps : Array Operand} : vsF P n T ⟨d, .makeFunc fn first caps, none⟩ e K = vs P n T ⟨d, .makeFunc fn first caps, none⟩ e K := vsF_vs fun _ _ _ h => by cases h
@[go_sem] theorem vsF_fa {d : Option Nat} {t : Nat} {x : Operand} {f : Nat} : vsF P n T ⟨d, .fieldAddr t x f, none⟩ e K = vs P n T ⟨d, .fieldAddr t x f, none⟩ e K := vsF_vs fun _ _ _ h => by cases h
@[go_sem] theorem vsF_ia {d : Option Nat} {t : Nat} {x i : Operand} : vsF P n T ⟨d, .indexAddr t x i, none⟩ e K = vs P n T ⟨d, .indexAddr t x i, none⟩ e K := vsF_vs fun _ _ _ h => by cases h
@[go_sem] theorem vsF_lk {d : Option Nat} {t : Nat} {x i : Operand} {ok : Bool} : vsF P n T ⟨d, .lookup t x i ok, none⟩ e K = vs P n T ⟨d, .lookup t x i ok, none⟩ e K := vsF_vs fun _ _ _ h => by cases h
@[go_sem] theorem vsF_ex {d : Option Nat} {x : Operand} {i : Nat} : vsF P n T ⟨d, .extract x i, none⟩ e K = vs P n T ⟨d, .extract x i, none⟩ e K := vsF_vs fun _ _ _ h => by cases h
@[go_sem] theorem vsF_max {d : Option Nat} {a : Array Operand} {t : Array Nat} : vsF P n T ⟨d, .call ⟨.builtin .max, a, t⟩, none⟩ e K = vs P n T ⟨d, .call ⟨.builtin .max, a, t⟩, none⟩ e K := vsF_vs fun _ _ _ h => by cases h
@[go_sem] theorem vsF_append {d : Option Nat} {a : Array Operand} {t : Array Nat} : vsF P n T ⟨d, .call ⟨.builtin .append, a, t⟩, none⟩ e K = vs P n T ⟨d, .call ⟨.builtin .append, a, t⟩, none⟩ e K := vsF_vs fun _ _ _ h => by cases h
@[go_sem] theorem vsF_copy {d : Option Nat} {a : Array Operand} {t : Array Nat} : vsF P n T ⟨d, .call ⟨.builtin .copy, a, t⟩, none⟩ e K = vs P n T ⟨d, .call ⟨.builtin .copy, a, t⟩, none⟩ e K := vsF_vs fun _ _ _ h => by cases h
@[go_sem] theorem vsF_call {d : Option Nat} {f : Operand} {a : Array Operand} {t : Array Nat} : vsF P n T ⟨d, .call ⟨.value f, a, t⟩, none⟩ e K = vs P n T ⟨d, .call ⟨.value f, a, t⟩, none⟩ e K := vsF_vs fun _ _ _ h => by cases h
@[go_sem] theorem vsF_build {d : Option Nat} {t : Nat} {ps : Array (Nat × Operand)} : vsF P n T ⟨d, .build t ps, none⟩ e K = vs P n T ⟨d, .build t ps, none⟩ e K := vsF_vs fun _ _ _ h => by cases h
@[go_sem] theorem vsF_box {d : Option Nat} {t : Nat} {x : Operand} : vsF P n T ⟨d, .box t x, none⟩ e K = vs P n T ⟨d, .box t x, none⟩ e K := vsF_vs fun _ _ _ h => by cases h
@[go_sem] theorem vsF_alloc {d : Option Nat} {t : Nat} : vsF P n T ⟨d, .alloc t, none⟩ e K = vs P n T ⟨d, .alloc t, none⟩ e K := vsF_vs fun _ _ _ h => by cases h
@[go_sem] theorem vsF_bs {d : Option Nat} {t l : Nat} {ps : Array (Nat × Operand)} : vsF P n T ⟨d, .buildSlice t l ps, none⟩ e K = vs P n T ⟨d, .buildSlice t l ps, none⟩ e K := vsF_vs fun _ _ _ h => by cases h
@[go_sem] theorem vsF_ms {d : Option Nat} {t : Nat} {l c : Operand} : vsF P n T ⟨d, .makeSlice t l c, none⟩ e K = vs P n T ⟨d, .makeSlice t l c, none⟩ e K := vsF_vs fun _ _ _ h => by cases h
@[go_sem] theorem vsF_mm {d : Option Nat} {t : Nat} {r : Option Operand} : vsF P n T ⟨d, .makeMap t r, none⟩ e K = vs P n T ⟨d, .makeMap t r, none⟩ e K := vsF_vs fun _ _ _ h => by cases h
@[go_sem] theorem vsF_store {d : Option Nat} {t : Nat} {p x : Operand} : vsF P n T ⟨d, .store t p x, none⟩ e K = vs P n T ⟨d, .store t p x, none⟩ e K := vsF_vs fun _ _ _ h => by cases h
@[go_sem] theorem vsF_mu {d : Option Nat} {t : Nat} {m k v : Operand} : vsF P n T ⟨d, .mapUpdate t m k v, none⟩ e K = vs P n T ⟨d, .mapUpdate t m k v, none⟩ e K := vsF_vs fun _ _ _ h => by cases h
@[go_sem] theorem vd_nil {B : List (List Nat)} {i : Nat} {hist : List (Nat × List Root)} {pend : List (Nat × Op × Option OpR)} : vd P n T B i [] hist pend e K = K e := rfl
@[go_sem] theorem vc_skip : vc P n k T .skip Q e = Q .normal e := rfl
@[go_sem] theorem vc_reg {l : List SOp} : vc P n k T (.reg l) Q e = vr P n T l e (Q .normal) := rfl
theorem vc_draw {l : List SOp} {B : List (List Nat)} : vc P n k T (.draw l B) Q e = vd P n T B 0 l [] [] e (Q .normal) := rfl
@[go_sem] theorem vc_seq {a b : SCode} : vc P n k T (.seq a b) Q e = vc P n k T a (thenQ (vc P n k T b Q) Q) e := rfl
@[go_sem] theorem vc_cond {c : Operand} {a b : SCode} : vc P n k T (.cond c a b) Q e = (e.argc c ∧ vcond (e.arg c) (vc P n k T a Q e) (vc P n k T b Q e)) := rfl
@[go_sem] theorem vc_block {id : Nat} {a : SCode} : vc P n k T (.block id a) Q e = vc P n k T a (blockQ id Q) e := rfl
@[go_sem] theorem vc_loop {a : SCode} : vc P n k T (.loop a) Q e = VW P n k T (.loop a) Q e := rfl
@[go_sem] theorem vc_exit {id : Nat} : vc P n k T (.exit id) Q e = Q (.exit id) e := rfl
@[go_sem] theorem vc_ret : vc P n k T .ret Q e = Q .ret e := rfl
@[go_sem] theorem vcond_bool {t : Bool} {A B : Prop} : vcond (.bool t) A B = ((t = true → A) ∧ (t = false → B)) := rfl
@[go_sem] theorem thenQ_normal {K : Env → Prop} : thenQ K Q .normal e = K e := rfl
@[go_sem] theorem thenQ_exit {K : Env → Prop} {id : Nat} : thenQ K Q (.exit id) e = Q (.exit id) e := rfl
@[go_sem] theorem thenQ_ret {K : Env → Prop} : thenQ K Q .ret e = Q .ret e := rfl
@[go_sem] theorem blockQ_normal {id : Nat} : blockQ id Q .normal e = Q .normal e := rfl
@[go_sem] theorem blockQ_ret {id : Nat} : blockQ id Q .ret e = Q .ret e := rfl
@[go_sem] theorem blockQ_exit {id i : Nat} : blockQ id Q (.exit i) e = if i = id then Q .normal e else Q (.exit i) e := rfl
@[go_sem] theorem tv_nil {i : Nat} : tv [] i = .undef := rfl
@[go_sem] theorem tv_cons {i j : Nat} {v : AV} {l : List (Nat × AV)} : tv ((j, v) :: l) i = if j = i then v else tv l i := rfl
@[go_sem] theorem put_some {i : Nat} {v : AV} : Env.put ⟨tm, st⟩ (some i) v = ⟨(i, v) :: tm, st⟩ := rfl
@[go_sem] theorem put_none {v : AV} : Env.put e none v = e := rfl
@[go_sem] theorem enT_nil {i : Nat} : enT i [] = [] := rfl
@[go_sem] theorem enT_cons {i : Nat} {x : AV} {xs : List AV} : enT i (x :: xs) = (i, x) :: enT (i + 1) xs := rfl
@[go_sem] theorem gc_undef : (AV.undef).gc = true := rfl
@[go_sem] theorem gc_int {k : IntKind} {n : Int} : (AV.int k n).gc = true := rfl
@[go_sem] theorem gc_bool {b : Bool} : (AV.bool b).gc = true := rfl
@[go_sem] theorem gc_str {s : ByteArray} : (AV.str s).gc = true := rfl
@[go_sem] theorem gc_nilp : (AV.nilp).gc = true := rfl
@[go_sem] theorem gc_nils : (AV.nils).gc = true := rfl
@[go_sem] theorem gc_nili : (AV.nili).gc = true := rfl
@[go_sem] theorem gc_ifc {t : TypeId} {v : AV} : (AV.ifc t v).gc = true := rfl
@[go_sem] theorem gc_sl {τ w : Nat} {xs : List AV} : (AV.sl τ w xs).gc = true := rfl
@[go_sem] theorem gc_dptr {τ : Nat} {xs : List AV} : (AV.dptr τ xs).gc = true := rfl
@[go_sem] theorem gc_osl {r w off len : Nat} : (AV.osl r w off len).gc = true := rfl
@[go_sem] theorem gc_ptr {r w i j : Nat} : (AV.ptr r w i j).gc = true := rfl
@[go_sem] theorem gc_map {r : Nat} : (AV.map r).gc = true := rfl
@[go_sem] theorem gc_fn {f : FuncId} {cs : List AV} : (AV.fn f cs).gc = true := rfl
@[go_sem] theorem gc_agg {cs : List AV} : (AV.agg cs).gc = true := rfl
@[go_sem] theorem gc_tup {cs : List AV} : (AV.tup cs).gc = true := rfl
@[go_sem] theorem gc_gd {g : Bool} {v : AV} : (AV.gd g v).gc = g := rfl
@[go_sem] theorem core_undef : (AV.undef).core = .undef := rfl
@[go_sem] theorem core_int {k : IntKind} {n : Int} : (AV.int k n).core = .int k n := rfl
@[go_sem] theorem core_bool {b : Bool} : (AV.bool b).core = .bool b := rfl
@[go_sem] theorem core_str {s : ByteArray} : (AV.str s).core = .str s := rfl
@[go_sem] theorem core_nilp : (AV.nilp).core = .nilp := rfl
@[go_sem] theorem core_nils : (AV.nils).core = .nils := rfl
@[go_sem] theorem core_nili : (AV.nili).core = .nili := rfl
@[go_sem] theorem core_ifc {t : TypeId} {v : AV} : (AV.ifc t v).core = .ifc t v := rfl
@[go_sem] theorem core_sl {τ w : Nat} {xs : List AV} : (AV.sl τ w xs).core = .sl τ w xs := rfl
@[go_sem] theorem core_dptr {τ : Nat} {xs : List AV} : (AV.dptr τ xs).core = .dptr τ xs := rfl
@[go_sem] theorem core_osl {r w off len : Nat} : (AV.osl r w off len).core = .osl r w off len := rfl
@[go_sem] theorem core_ptr {r w i j : Nat} : (AV.ptr r w i j).core = .ptr r w i j := rfl
@[go_sem] theorem core_map {r : Nat} : (AV.map r).core = .map r := rfl
@[go_sem] theorem core_fn {f : FuncId} {cs : List AV} : (AV.fn f cs).core = .fn f cs := rfl
@[go_sem] theorem core_agg {cs : List AV} : (AV.agg cs).core = .agg cs := rfl
@[go_sem] theorem core_tup {cs : List AV} : (AV.tup cs).core = .tup cs := rfl
@[go_sem] theorem core_gd {g : Bool} {v : AV} : (AV.gd g v).core = v := rfl
@[go_sem] theorem cells_int {k : IntKind} {n : Int} : (AV.int k n).cells = [.int k n] := rfl
@[go_sem] theorem cells_bool {b : Bool} : (AV.bool b).cells = [.bool b] := rfl
@[go_sem] theorem cells_str {s : ByteArray} : (AV.str s).cells = [.str s] := rfl
@[go_sem] theorem cells_nilp : (AV.nilp).cells = [.nilp] := rfl
@[go_sem] theorem cells_nils : (AV.nils).cells = [.nils] := rfl
@[go_sem] theorem cells_nili : (AV.nili).cells = [.nili] := rfl
@[go_sem] theorem cells_sl {τ w : Nat} {xs : List AV} : (AV.sl τ w xs).cells = [.sl τ w xs] := rfl
@[go_sem] theorem cells_dptr {τ : Nat} {xs : List AV} : (AV.dptr τ xs).cells = [.dptr τ xs] := rfl
@[go_sem] theorem cells_osl {r w off len : Nat} : (AV.osl r w off len).cells = [.osl r w off len] := rfl
@[go_sem] theorem cells_ptr {r w i j : Nat} : (AV.ptr r w i j).cells = [.ptr r w i j] := rfl
@[go_sem] theorem cells_map {r : Nat} : (AV.map r).cells = [.map r] := rfl
@[go_sem] theorem cells_fn {f : FuncId} {cs : List AV} : (AV.fn f cs).cells = [.fn f cs] := rfl
@[go_sem] theorem cells_agg {cs : List AV} : (AV.agg cs).cells = cs := rfl
@[go_sem] theorem argc_tmp {t : Nat} : Env.argc ⟨tm, st⟩ (.tmp t) = ((tv tm t).gc = true) := rfl
@[go_sem] theorem arg_tmp {t : Nat} : Env.arg ⟨tm, st⟩ (.tmp t) = (tv tm t).core := rfl
@[go_sem] theorem ev_tmp {t : Nat} : Env.ev ⟨tm, st⟩ (.tmp t) = tv tm t := rfl
theorem gc_ofCell (v : Value) : (ofCell v).gc = true := by
  unfold ofCell
  split <;> rfl
theorem gc_ofValue (v : Value) : (ofValue v).gc = true := by
  unfold ofValue
  split
  · rename_i cs
    cases cs.toList.all Value.oneCell' <;> rfl
  · exact gc_ofCell v
theorem core_ofCell (v : Value) : (ofCell v).core = ofCell v := by
  unfold ofCell
  split <;> rfl
theorem core_ofValue (v : Value) : (ofValue v).core = ofValue v := by
  unfold ofValue
  split
  · rename_i cs
    cases cs.toList.all Value.oneCell' <;> rfl
  · exact core_ofCell v
@[go_sem] theorem argc_const {v : Value} : Env.argc e (.const v) = True := by simp only [Env.argc, Env.ev, gc_ofValue]
@[go_sem] theorem arg_const {v : Value} : Env.arg e (.const v) = ofValue v := by simp only [Env.arg, Env.ev, core_ofValue]
@[go_sem] theorem ev_const {v : Value} : Env.ev e (.const v) = ofValue v := rfl
@[go_sem] theorem argc_func {f : Nat} : Env.argc e (.func f) = True := by simp [Env.argc, Env.ev, AV.gc]
@[go_sem] theorem arg_func {f : Nat} : Env.arg e (.func f) = .fn f [] := rfl
@[go_sem] theorem ev_func {f : Nat} : Env.ev e (.func f) = .fn f [] := rfl
@[go_sem] theorem ofValue_int {k : IntKind} {n : Int} : ofValue (.int k n) = .int k n := rfl
@[go_sem] theorem ofValue_bool {b : Bool} : ofValue (.bool b) = .bool b := rfl
@[go_sem] theorem ofValue_str {s : ByteArray} : ofValue (.string s) = .str s := rfl
@[go_sem] theorem ofValue_nilp : ofValue (.pointer none) = .nilp := rfl
@[go_sem] theorem ofValue_nils : ofValue (.slice none 0 0) = .nils := rfl
@[go_sem] theorem ofValue_nili : ofValue .nilIface = .nili := rfl
@[go_sem] theorem q_move {x : Operand} : qval P n T e (.move x) = some ⟨e.argc x, e.arg x⟩ := rfl
@[go_sem] theorem q_assign {x : Operand} : qval P n T e (.assign x) = some ⟨e.argc x, e.arg x⟩ := rfl
@[go_sem] theorem q_pick {c a b : Operand} : qval P n T e (.pick c a b) = some (pickv (e.ev c) (e.ev a) (e.ev b)) := rfl
@[go_sem] theorem q_load {t : Nat} {a : Operand} : qval P n T e (.load t a) = some ⟨e.argc a ∧ (behind e.st (e.arg a)).1 ∧ (ldv P t (behind e.st (e.arg a)).2).c, (ldv P t (behind e.st (e.arg a)).2).v⟩ := rfl
@[go_sem] theorem q_nil {x : Operand} : qval P n T e (.nilCheck x) = some ⟨e.argc x ∧ (vNil (e.arg x)).c, (vNil (e.arg x)).v⟩ := rfl
@[go_sem] theorem q_bin {op : BinOp} {t : Nat} {x y : Operand} {z : Nat} : qval P n T e (.binOp op t x y z) = some ⟨e.argc x ∧ e.argc y ∧ (vbin P op t (e.arg x) (e.arg y)).c, (vbin P op t (e.arg x) (e.arg y)).v⟩ := rfl
@[go_sem] theorem q_un {op : UnOp} {t : Nat} {x : Operand} : qval P n T e (.unOp op t x) = some ⟨e.argc x ∧ (vUn op (e.arg x)).c, (vUn op (e.arg x)).v⟩ := rfl
@[go_sem] theorem q_conv {s d : Nat} {x : Operand} : qval P n T e (.convert s d x) = some ⟨e.argc x ∧ (vConv P s d (e.arg x)).c, (vConv P s d (e.arg x)).v⟩ := rfl
@[go_sem] theorem q_mkf {f : Nat} {first caps : Array Operand} : qval P n T e (.makeFunc (.func f) first caps) = some ⟨first.size = 0 ∧ (∀ x ∈ caps.toList, e.argc x), .fn f (caps.toList.map e.arg)⟩ := rfl
@[go_sem] theorem q_slice {t : Nat} {x : Operand} {lo hi : Option Operand} : qval P n T e (.slice t x lo hi none) = some ⟨e.argc x ∧ (∀ y ∈ lo.toList ++ hi.toList, e.argc y) ∧ (vSlice P t (e.arg x) (lo.map e.arg) (hi.map e.arg)).c, (vSlice P t (e.arg x) (lo.map e.arg) (hi.map e.arg)).v⟩ := rfl
@[go_sem] theorem q_fa {t : Nat} {x : Operand} {f : Nat} : qval P n T e (.fieldAddr t x f) = some ⟨e.argc x ∧ (vField P t f (e.arg x)).c, (vField P t f (e.arg x)).v⟩ := rfl
@[go_sem] theorem q_f {t : Nat} {x : Operand} {f : Nat} : qval P n T e (.field t x f) = some ⟨e.argc x ∧ (vFieldV P t (e.arg x) f).c, (vFieldV P t (e.arg x) f).v⟩ := rfl
@[go_sem] theorem q_ia {t : Nat} {x i : Operand} : qval P n T e (.indexAddr t x i) = some ⟨e.argc x ∧ e.argc i ∧ (vIndexAddr P t (e.arg x) (e.arg i)).c, (vIndexAddr P t (e.arg x) (e.arg i)).v⟩ := rfl
@[go_sem] theorem q_i {t : Nat} {x i : Operand} : qval P n T e (.index t x i) = some ⟨e.argc x ∧ e.argc i ∧ (vIndex P t (e.arg x) (e.arg i)).c, (vIndex P t (e.arg x) (e.arg i)).v⟩ := rfl
@[go_sem] theorem q_lk {t : Nat} {x i : Operand} {ok : Bool} : qval P n T e (.lookup t x i ok) = some ⟨e.argc x ∧ e.argc i ∧ (vLookup P e.st t (e.arg x) (e.arg i) ok).c, (vLookup P e.st t (e.arg x) (e.arg i) ok).v⟩ := rfl
@[go_sem] theorem q_ex {x : Operand} {i : Nat} : qval P n T e (.extract x i) = some ⟨e.argc x ∧ (vExtract (e.arg x) i).c, (vExtract (e.arg x) i).v⟩ := rfl
@[go_sem] theorem q_len {x : Operand} {t : Nat} : qval P n T e (.call ⟨.builtin .len, #[x], #[t]⟩) = some ⟨e.argc x ∧ (vLen P e.st t (e.arg x)).c, (vLen P e.st t (e.arg x)).v⟩ := rfl
@[go_sem] theorem q_max {x y : Operand} {t : Array Nat} : qval P n T e (.call ⟨.builtin .max, #[x, y], t⟩) = some ⟨e.argc x ∧ e.argc y ∧ (vMax (e.arg x) (e.arg y)).c, (vMax (e.arg x) (e.arg y)).v⟩ := rfl
@[go_sem] theorem q_min {x y : Operand} {t : Array Nat} : qval P n T e (.call ⟨.builtin .min, #[x, y], t⟩) = some ⟨e.argc x ∧ e.argc y ∧ (vMin (e.arg x) (e.arg y)).c, (vMin (e.arg x) (e.arg y)).v⟩ := rfl
/-- A call, once its function is found. -/
def callR (n : Nat) (e : Env) (f : Operand) (args : List Operand) (s : Option OpR) : Option OpR :=
  match s with
  | some r => some ⟨e.argc f ∧ (∀ x ∈ args, e.argc x) ∧ r.c, r.v⟩
  | none => none
@[go_sem] theorem q_call {f : Operand} {args : Array Operand} {t : Array Nat} : qval P n T e (.call ⟨.value f, args, t⟩) = callR n e f args.toList (tcall n T e.st (e.arg f) (args.toList.map e.arg)) := by
  simp only [qval, callR]
  cases tcall n T e.st (e.arg f) (args.toList.map e.arg) <;> rfl
@[go_sem] theorem callR_some {f : Operand} {args : List Operand} {c : Prop} {v : AV} : callR n e f args (some ⟨c, v⟩) = some ⟨e.argc f ∧ (∀ x ∈ args, e.argc x) ∧ c, v⟩ := rfl
@[go_sem] theorem callR_none {f : Operand} {args : List Operand} : callR n e f args none = none := rfl
@[go_sem] theorem q_build {t : Nat} {ps : Array (Nat × Operand)} : qval P n T e (.build t ps) = some ⟨(∀ p ∈ ps.toList, e.argc p.2) ∧ (vBuild P t (ps.toList.map fun p => (p.1, e.arg p.2))).c, (vBuild P t (ps.toList.map fun p => (p.1, e.arg p.2))).v⟩ := rfl
@[go_sem] theorem q_box {t : Nat} {x : Operand} : qval P n T e (.box t x) = none := rfl
@[go_sem] theorem q_alloc {t : Nat} : qval P n T e (.alloc t) = none := rfl
@[go_sem] theorem q_bs {t l : Nat} {ps : Array (Nat × Operand)} : qval P n T e (.buildSlice t l ps) = none := rfl
@[go_sem] theorem q_ms {t : Nat} {l c : Operand} : qval P n T e (.makeSlice t l c) = none := rfl
@[go_sem] theorem q_mm {t : Nat} {r : Option Operand} : qval P n T e (.makeMap t r) = none := rfl
@[go_sem] theorem q_store {t : Nat} {p x : Operand} : qval P n T e (.store t p x) = none := rfl
@[go_sem] theorem q_mu {t : Nat} {m k v : Operand} : qval P n T e (.mapUpdate t m k v) = none := rfl
@[go_sem] theorem q_append {a : Array Operand} {t : Array Nat} : qval P n T e (.call ⟨.builtin .append, a, t⟩) = none := rfl
@[go_sem] theorem q_copy {a : Array Operand} {t : Array Nat} : qval P n T e (.call ⟨.builtin .copy, a, t⟩) = none := rfl
@[go_sem] theorem pick_bool {t : Bool} {a b : AV} : pickv (.bool t) a b = pickv (.gd true (.bool t)) a b := rfl
@[go_sem] theorem pick_gd {g t x y : Bool} {gx gy : Bool} : pickv (.gd g (.bool t)) (.gd gx (.bool x)) (.gd gy (.bool y)) = ⟨g = true ∧ (t = true → gx = true) ∧ (t = false → gy = true), .bool (bif t then x else y)⟩ := rfl
@[go_sem] theorem pick_gd1 {g t x y : Bool} {gx : Bool} : pickv (.gd g (.bool t)) (.gd gx (.bool x)) (.bool y) = ⟨g = true ∧ (t = true → gx = true), .bool (bif t then x else y)⟩ := by
  simp [pickv, AV.core, AV.gc]
@[go_sem] theorem pick_gd2 {g t x y : Bool} {gy : Bool} : pickv (.gd g (.bool t)) (.bool x) (.gd gy (.bool y)) = ⟨g = true ∧ (t = false → gy = true), .bool (bif t then x else y)⟩ := by
  simp [pickv, AV.core, AV.gc]
theorem pick_gf' {g : Bool} {a b : AV} : pickv (.gd g (.bool false)) a b = ⟨g = true ∧ b.gc = true, b.core⟩ := by
  unfold pickv
  split
  · rename_i t x y h1 h2 h3
    cases (show AV.bool false = AV.bool t from h1)
    rw [h3]
    simp [gc_gd]
  · rename_i t h1 h2
    cases (show AV.bool false = AV.bool t from h1)
    simp [gc_gd]
  · rename_i h1 h2
    first | exact (h1 _ rfl).elim | exact (h2 _ rfl).elim | exact (h2 _ _ _ rfl rfl rfl).elim
theorem pick_gt' {g : Bool} {a b : AV} : pickv (.gd g (.bool true)) a b = ⟨g = true ∧ a.gc = true, a.core⟩ := by
  unfold pickv
  split
  · rename_i t x y h1 h2 h3
    cases (show AV.bool true = AV.bool t from h1)
    rw [h2]
    simp [gc_gd]
  · rename_i t h1 h2
    cases (show AV.bool true = AV.bool t from h1)
    simp [gc_gd]
  · rename_i h1 h2
    first | exact (h1 _ rfl).elim | exact (h2 _ rfl).elim | exact (h2 _ _ _ rfl rfl rfl).elim
@[go_sem high] theorem pick_gf {g : Bool} {a b : AV} : pickv (.gd g (.bool false)) a b = ⟨g = true ∧ b.gc = true, b.core⟩ := pick_gf'
@[go_sem high] theorem pick_gt {g : Bool} {a b : AV} : pickv (.gd g (.bool true)) a b = ⟨g = true ∧ a.gc = true, a.core⟩ := pick_gt'
@[go_sem] theorem bitOf_bool {b w : Bool} : bitOf (.bool b) w = some (b == w) := rfl
@[go_sem] theorem bitOf_gd {g b w : Bool} : bitOf (.gd g (.bool b)) w = some (g && (b == w)) := rfl
@[go_sem] theorem behind_dptr {τ : Nat} {cs : List AV} : behind st (.dptr τ cs) = (True, cs) := rfl
@[go_sem] theorem behind_ptr {r w i j : Nat} : behind st (.ptr r w i j) = behindR w i j (st[r]?) := by
  simp only [behind, behindR]
  cases st[r]? with
  | none => rfl
  | some R => cases R <;> rfl
end
end Go.Ve
namespace Go.Ve
open Go.RowKit
set_option linter.unusedVariables false
set_option linter.unusedSimpArgs false
section
variable {P : Program} {n k : Nat} {T : List (Nat × Fsem)} {K : Env → Prop} {tm : List (Nat × AV)} {st : List Root} {e : Env}
@[go_sem] theorem behindR_box {w i j t : Nat} {cs : List AV} : behindR w i j (some (.box t cs)) = (i = 0, cs.drop j) := rfl
@[go_sem] theorem behindR_row {w i j t w' : Nat} {xs : List AV} : behindR w i j (some (.row t w' xs)) = (w = w' ∧ i < xs.length, (nth xs i).cells.drop j) := rfl
def ldvR (c : Nat) (ty : Ty) (cs : List AV) : OpR :=
  match ty with
  | .agg => ⟨c ≤ cs.length, .agg (cs.take c)⟩
  | .other => .no
  | _ => ⟨0 < cs.length, cs.headD .undef⟩
@[go_sem] theorem ldv_eq {t : Nat} {cs : List AV} : ldv P t cs = ldvR (P.cellsOf t) (tyOf P t) cs := rfl
@[go_sem] theorem ldvR_agg {c : Nat} {cs : List AV} : ldvR c .agg cs = ⟨c ≤ cs.length, .agg (cs.take c)⟩ := rfl
@[go_sem] theorem ldvR_int {c : Nat} {k : IntKind} {cs : List AV} : ldvR c (.int k) cs = ⟨0 < cs.length, cs.headD .undef⟩ := rfl
@[go_sem] theorem ldvR_bool {c : Nat} {cs : List AV} : ldvR c .bool cs = ⟨0 < cs.length, cs.headD .undef⟩ := rfl
@[go_sem] theorem ldvR_str {c : Nat} {cs : List AV} : ldvR c .str cs = ⟨0 < cs.length, cs.headD .undef⟩ := rfl
@[go_sem] theorem ldvR_ptr {c : Nat} {cs : List AV} : ldvR c .ptr cs = ⟨0 < cs.length, cs.headD .undef⟩ := rfl
@[go_sem] theorem ldvR_sl {c t : Nat} {cs : List AV} : ldvR c (.sl t) cs = ⟨0 < cs.length, cs.headD .undef⟩ := rfl
@[go_sem] theorem ldvR_mp {c t u : Nat} {cs : List AV} : ldvR c (.mp t u) cs = ⟨0 < cs.length, cs.headD .undef⟩ := rfl
@[go_sem] theorem ldvR_ifc {c : Nat} {cs : List AV} : ldvR c .ifc cs = ⟨0 < cs.length, cs.headD .undef⟩ := rfl
@[go_sem] theorem ldvR_fn {c : Nat} {cs : List AV} : ldvR c .fn cs = ⟨0 < cs.length, cs.headD .undef⟩ := rfl
def vFieldR (c : Nat → Nat) (o : Option (Nat × Nat)) (x : AV) : OpR :=
  match o with
  | some (off, ft) => match x with
    | .dptr τ cs => ⟨c ft ≠ 0, .dptr τ (cs.drop off)⟩
    | .ptr r w i j => ⟨c ft ≠ 0, .ptr r w i (j + off)⟩
    | _ => .no
  | none => .no
@[go_sem] theorem vField_eq {s f : Nat} {x : AV} : vField P s f x = vFieldR P.cellsOf (fld P s f) x := rfl
@[go_sem] theorem vFieldR_dptr {c : Nat → Nat} {off ft τ : Nat} {cs : List AV} : vFieldR c (some (off, ft)) (.dptr τ cs) = ⟨c ft ≠ 0, .dptr τ (cs.drop off)⟩ := rfl
@[go_sem] theorem vFieldR_ptr {c : Nat → Nat} {off ft r w i j : Nat} : vFieldR c (some (off, ft)) (.ptr r w i j) = ⟨c ft ≠ 0, .ptr r w i (j + off)⟩ := rfl
def vIndexAddrR (P : Program) (ty : Ty) (x i : AV) : OpR :=
  match ty, x, i with
  | .sl e, .sl τ w xs, .int _ n => ⟨P.cellsOf e = w ∧ (P.info? e).isSome = true ∧ 0 ≤ n ∧ n < xs.length, .dptr τ (nth xs n.toNat).cells⟩
  | .sl e, .osl r w off len, .int _ n => ⟨P.cellsOf e = w ∧ (P.info? e).isSome = true ∧ 0 ≤ n ∧ n < len, .ptr r w (off + n.toNat) 0⟩
  | _, _, _ => .no
@[go_sem] theorem vIndexAddr_eq {t : Nat} {x i : AV} : vIndexAddr P t x i = vIndexAddrR P (tyOf P t) x i := rfl
@[go_sem] theorem vIndexAddrR_sl {e τ w : Nat} {xs : List AV} {k : IntKind} {n : Int} : vIndexAddrR P (.sl e) (.sl τ w xs) (.int k n) = ⟨P.cellsOf e = w ∧ (P.info? e).isSome = true ∧ 0 ≤ n ∧ n < xs.length, .dptr τ (nth xs n.toNat).cells⟩ := rfl
@[go_sem] theorem vIndexAddrR_osl {e r w off len : Nat} {k : IntKind} {n : Int} : vIndexAddrR P (.sl e) (.osl r w off len) (.int k n) = ⟨P.cellsOf e = w ∧ (P.info? e).isSome = true ∧ 0 ≤ n ∧ n < len, .ptr r w (off + n.toNat) 0⟩ := rfl
@[go_sem] theorem vbin_add {t : Nat} {k k' : IntKind} {a b : Int} : vbin P .add t (.int k a) (.int k' b) = ⟨k = k' ∧ True, .int k (k.wrap (a + b))⟩ := rfl
@[go_sem] theorem vbin_sub {t : Nat} {k k' : IntKind} {a b : Int} : vbin P .sub t (.int k a) (.int k' b) = ⟨k = k' ∧ True, .int k (k.wrap (a - b))⟩ := rfl
@[go_sem] theorem vbin_mul {t : Nat} {k k' : IntKind} {a b : Int} : vbin P .mul t (.int k a) (.int k' b) = ⟨k = k' ∧ True, .int k (k.wrap (a * b))⟩ := rfl
@[go_sem] theorem vbin_quo {t : Nat} {k k' : IntKind} {a b : Int} : vbin P .quo t (.int k a) (.int k' b) = ⟨k = k' ∧ b ≠ 0, .int k (k.wrap (a.tdiv b))⟩ := rfl
@[go_sem] theorem vbin_rem {t : Nat} {k k' : IntKind} {a b : Int} : vbin P .rem t (.int k a) (.int k' b) = ⟨k = k' ∧ b ≠ 0, .int k (a.tmod b)⟩ := rfl
@[go_sem] theorem vbin_and {t : Nat} {k k' : IntKind} {a b : Int} : vbin P .and t (.int k a) (.int k' b) = ⟨k = k' ∧ True, .int k (vbits .and k a b)⟩ := rfl
@[go_sem] theorem vbin_or {t : Nat} {k k' : IntKind} {a b : Int} : vbin P .or t (.int k a) (.int k' b) = ⟨k = k' ∧ True, .int k (vbits .or k a b)⟩ := rfl
@[go_sem] theorem vbin_xor {t : Nat} {k k' : IntKind} {a b : Int} : vbin P .xor t (.int k a) (.int k' b) = ⟨k = k' ∧ True, .int k (vbits .xor k a b)⟩ := rfl
@[go_sem] theorem vbin_eql {t : Nat} {k k' : IntKind} {a b : Int} : vbin P .eql t (.int k a) (.int k' b) = ⟨k = k' ∧ True, .bool (decide (a = b))⟩ := rfl
@[go_sem] theorem vbin_neq {t : Nat} {k k' : IntKind} {a b : Int} : vbin P .neq t (.int k a) (.int k' b) = ⟨k = k' ∧ True, .bool (!decide (a = b))⟩ := rfl
@[go_sem] theorem vbin_lss {t : Nat} {k k' : IntKind} {a b : Int} : vbin P .lss t (.int k a) (.int k' b) = ⟨k = k' ∧ True, .bool (decide (a < b))⟩ := rfl
@[go_sem] theorem vbin_leq {t : Nat} {k k' : IntKind} {a b : Int} : vbin P .leq t (.int k a) (.int k' b) = ⟨k = k' ∧ True, .bool (decide (a ≤ b))⟩ := rfl
@[go_sem] theorem vbin_gtr {t : Nat} {k k' : IntKind} {a b : Int} : vbin P .gtr t (.int k a) (.int k' b) = ⟨k = k' ∧ True, .bool (decide (b < a))⟩ := rfl
@[go_sem] theorem vbin_geq {t : Nat} {k k' : IntKind} {a b : Int} : vbin P .geq t (.int k a) (.int k' b) = ⟨k = k' ∧ True, .bool (decide (b ≤ a))⟩ := rfl
@[go_sem] theorem vbin_shl {t : Nat} {k k' : IntKind} {a b : Int} : vbin P .shl t (.int k a) (.int k' b) = ⟨0 ≤ b, .int k (k.wrap (a * 2 ^ min b.toNat k.bits))⟩ := rfl
@[go_sem] theorem vbin_shr {t : Nat} {k k' : IntKind} {a b : Int} : vbin P .shr t (.int k a) (.int k' b) = ⟨0 ≤ b, .int k (a.fdiv (2 ^ min b.toNat k.bits))⟩ := rfl
@[go_sem] theorem vbin_sadd {t : Nat} {a b : ByteArray} : vbin P .add t (.str a) (.str b) = ⟨a.size + b.size ≤ 9223372036854775807, .str (a ++ b)⟩ := rfl
@[go_sem] theorem vbin_seql {t : Nat} {a b : ByteArray} : vbin P .eql t (.str a) (.str b) = ⟨True, .bool (decide (a = b))⟩ := rfl
@[go_sem] theorem vbin_sneq {t : Nat} {a b : ByteArray} : vbin P .neq t (.str a) (.str b) = ⟨True, .bool (!decide (a = b))⟩ := rfl
@[go_sem] theorem vbin_slss {t : Nat} {a b : ByteArray} : vbin P .lss t (.str a) (.str b) = ⟨True, .bool (Op.bytesLess a.toList b.toList)⟩ := rfl
@[go_sem] theorem vbin_sgtr {t : Nat} {a b : ByteArray} : vbin P .gtr t (.str a) (.str b) = ⟨True, .bool (!(Op.bytesLess a.toList b.toList || a.toList == b.toList))⟩ := rfl
@[go_sem] theorem vbin_sleq {t : Nat} {a b : ByteArray} : vbin P .leq t (.str a) (.str b) = ⟨True, .bool (Op.bytesLess a.toList b.toList || a.toList == b.toList)⟩ := rfl
@[go_sem] theorem vbin_sgeq {t : Nat} {a b : ByteArray} : vbin P .geq t (.str a) (.str b) = ⟨True, .bool (!Op.bytesLess a.toList b.toList)⟩ := rfl
@[go_sem] theorem vbin_beql {t : Nat} {a b : Bool} : vbin P .eql t (.bool a) (.bool b) = ⟨tyOf P t = .bool, .bool (a == b)⟩ := rfl
@[go_sem] theorem vbin_bneq {t : Nat} {a b : Bool} : vbin P .neq t (.bool a) (.bool b) = ⟨tyOf P t = .bool, .bool (!(a == b))⟩ := rfl
/-- Structs, compared cell by cell. -/
def vAgg (c : Bool) (neg : Bool) (o : Option Bool) : OpR :=
  match o with
  | some b => ⟨c = true, .bool (neg != b)⟩
  | none => .no
@[go_sem] theorem vbin_aeql {t : Nat} {xs ys : List AV} : vbin P .eql t (.agg xs) (.agg ys) = vAgg (eqOk P t (xs.map AV.kind)) false (cellsEq xs ys) := by
  simp only [vbin, vAgg]
  cases cellsEq xs ys with
  | none => rfl
  | some b => simp
@[go_sem] theorem vAgg_eql {c b : Bool} : vAgg c false (some b) = ⟨c = true, .bool b⟩ := by simp [vAgg]
def andO (a b : Option Bool) : Option Bool :=
  match a, b with
  | some a, some b => some (a && b)
  | _, _ => none
@[go_sem] theorem andO_some {a b : Bool} : andO (some a) (some b) = some (a && b) := rfl
@[go_sem] theorem cellsEq_nil : cellsEq [] [] = some true := rfl
@[go_sem] theorem cellsEq_cons {x y : AV} {xs ys : List AV} : cellsEq (x :: xs) (y :: ys) = andO (cellEq x y) (cellsEq xs ys) := by
  simp only [cellsEq, andO]
  cases cellEq x y <;> cases cellsEq xs ys <;> rfl
@[go_sem] theorem cellEq_int {k : IntKind} {a b : Int} : cellEq (.int k a) (.int k b) = some (decide (a = b)) := by simp [cellEq]
@[go_sem] theorem cellEq_bool {a b : Bool} : cellEq (.bool a) (.bool b) = some (a == b) := rfl
@[go_sem] theorem cellEq_str {a b : ByteArray} : cellEq (.str a) (.str b) = some (decide (a = b)) := rfl
@[go_sem] theorem kind_int {k : IntKind} {a : Int} : (AV.int k a).kind = 0 := rfl
@[go_sem] theorem kind_bool {a : Bool} : (AV.bool a).kind = 1 := rfl
@[go_sem] theorem kind_str {a : ByteArray} : (AV.str a).kind = 2 := rfl
@[go_sem] theorem vbin_peql {t : Nat} : vbin P .eql t .nilp .nilp = ⟨tyOf P t = .ptr, .bool true⟩ := rfl
@[go_sem] theorem vbin_pneq {t : Nat} : vbin P .neq t .nilp .nilp = ⟨tyOf P t = .ptr, .bool false⟩ := rfl
@[go_sem] theorem vbin_deql {t τ : Nat} {cs : List AV} : vbin P .eql t (.dptr τ cs) .nilp = ⟨tyOf P t = .ptr, .bool false⟩ := rfl
@[go_sem] theorem vbin_dneq {t τ : Nat} {cs : List AV} : vbin P .neq t (.dptr τ cs) .nilp = ⟨tyOf P t = .ptr, .bool true⟩ := rfl
@[go_sem] theorem vbin_oeql {t r w i j : Nat} : vbin P .eql t (.ptr r w i j) .nilp = ⟨tyOf P t = .ptr, .bool false⟩ := rfl
@[go_sem] theorem vbin_oneq {t r w i j : Nat} : vbin P .neq t (.ptr r w i j) .nilp = ⟨tyOf P t = .ptr, .bool true⟩ := rfl
@[go_sem] theorem vUn_not {b : Bool} : vUn .not (.bool b) = ⟨True, .bool (!b)⟩ := rfl
@[go_sem] theorem vUn_neg {k : IntKind} {m : Int} : vUn .neg (.int k m) = ⟨True, .int k (k.wrap (0 - m))⟩ := rfl
def vConvR (c : Bool) (ty : Ty) (x : AV) : OpR :=
  match ty, x with
  | .int k, .int _ n => ⟨c = true, .int k (k.wrap n)⟩
  | .str, .str s => ⟨c = true, .str s⟩
  | _, _ => .no
@[go_sem] theorem vConv_eq {s d : Nat} {x : AV} : vConv P s d x = vConvR (P.underlying s).isSome (tyOf P d) x := rfl
@[go_sem] theorem vConvR_int {c : Bool} {k k' : IntKind} {m : Int} : vConvR c (.int k) (.int k' m) = ⟨c = true, .int k (k.wrap m)⟩ := rfl
@[go_sem] theorem vConvR_str {c : Bool} {s : ByteArray} : vConvR c .str (.str s) = ⟨c = true, .str s⟩ := rfl
@[go_sem] theorem vExtract_tup {xs : List AV} {i : Nat} : vExtract (.tup xs) i = ⟨i < xs.length, nth xs i⟩ := rfl
def vFieldVR (c : Nat → Nat) (tt : Nat → Ty) (o : Option (Nat × Nat)) (x : AV) : OpR :=
  match o, x with
  | some (off, ft), .agg cs => match tt ft with
    | .agg => ⟨off + c ft ≤ cs.length, .agg ((cs.drop off).take (c ft))⟩
    | .other => .no
    | _ => ⟨off < cs.length, nth cs off⟩
  | _, _ => .no
@[go_sem] theorem vFieldV_eq {s f : Nat} {x : AV} : vFieldV P s x f = vFieldVR P.cellsOf (tyOf P) (fld P s f) x := rfl
def vFieldVT (c : Nat) (ty : Ty) (off : Nat) (cs : List AV) : OpR :=
  match ty with
  | .agg => ⟨off + c ≤ cs.length, .agg ((cs.drop off).take c)⟩
  | .other => .no
  | _ => ⟨off < cs.length, nth cs off⟩
@[go_sem] theorem vFieldVR_agg {c : Nat → Nat} {tt : Nat → Ty} {off ft : Nat} {cs : List AV} : vFieldVR c tt (some (off, ft)) (.agg cs) = vFieldVT (c ft) (tt ft) off cs := rfl
@[go_sem] theorem vFieldVT_agg {c off : Nat} {cs : List AV} : vFieldVT c .agg off cs = ⟨off + c ≤ cs.length, .agg ((cs.drop off).take c)⟩ := rfl
@[go_sem] theorem vFieldVT_int {c off : Nat} {k : IntKind} {cs : List AV} : vFieldVT c (.int k) off cs = ⟨off < cs.length, nth cs off⟩ := rfl
@[go_sem] theorem vFieldVT_bool {c off : Nat} {cs : List AV} : vFieldVT c .bool off cs = ⟨off < cs.length, nth cs off⟩ := rfl
@[go_sem] theorem vFieldVT_str {c off : Nat} {cs : List AV} : vFieldVT c .str off cs = ⟨off < cs.length, nth cs off⟩ := rfl
@[go_sem] theorem vFieldVT_ptr {c off : Nat} {cs : List AV} : vFieldVT c .ptr off cs = ⟨off < cs.length, nth cs off⟩ := rfl
@[go_sem] theorem vFieldVT_sl {c off t : Nat} {cs : List AV} : vFieldVT c (.sl t) off cs = ⟨off < cs.length, nth cs off⟩ := rfl
@[go_sem] theorem vFieldVT_mp {c off t u : Nat} {cs : List AV} : vFieldVT c (.mp t u) off cs = ⟨off < cs.length, nth cs off⟩ := rfl
@[go_sem] theorem vFieldVT_ifc {c off : Nat} {cs : List AV} : vFieldVT c .ifc off cs = ⟨off < cs.length, nth cs off⟩ := rfl
@[go_sem] theorem nth_cons_zero {x : AV} {xs : List AV} : nth (x :: xs) 0 = x := rfl
@[go_sem] theorem nth_cons_succ {x : AV} {xs : List AV} {i : Nat} : nth (x :: xs) (i + 1) = nth xs i := by simp [nth]
def vLenR (st : List Root) (ty : Ty) (x : AV) : OpR :=
  match ty, x with
  | .sl _, .sl _ _ xs => ⟨True, .int .i64 xs.length⟩
  | .sl _, .osl _ _ _ len => ⟨True, .int .i64 len⟩
  | .sl _, .nils => ⟨True, .int .i64 0⟩
  | .str, .str s => ⟨True, .int .i64 s.size⟩
  | .mp _ _, .map r => match st[r]? with
    | some (.mp kv) => ⟨True, .int .i64 kv.length⟩
    | _ => .no
  | _, _ => .no
@[go_sem] theorem vLen_eq {t : Nat} {x : AV} : vLen P st t x = vLenR st (tyOf P t) x := rfl
@[go_sem] theorem vLenR_sl {t τ w : Nat} {xs : List AV} : vLenR st (.sl t) (.sl τ w xs) = ⟨True, .int .i64 xs.length⟩ := rfl
@[go_sem] theorem vLenR_osl {t r w off len : Nat} : vLenR st (.sl t) (.osl r w off len) = ⟨True, .int .i64 len⟩ := rfl
@[go_sem] theorem vLenR_nils {t : Nat} : vLenR st (.sl t) .nils = ⟨True, .int .i64 0⟩ := rfl
@[go_sem] theorem vLenR_str {s : ByteArray} : vLenR st .str (.str s) = ⟨True, .int .i64 s.size⟩ := rfl
def lenMp (R : Option Root) : OpR :=
  match R with
  | some (.mp kv) => ⟨True, .int .i64 kv.length⟩
  | _ => .no
@[go_sem] theorem vLenR_map {t u r : Nat} : vLenR st (.mp t u) (.map r) = lenMp (st[r]?) := rfl
@[go_sem] theorem lenMp_mp {kv : List (AV × AV)} : lenMp (some (.mp kv)) = ⟨True, .int .i64 kv.length⟩ := rfl
@[go_sem] theorem lenFact_sl {τ w : Nat} {xs : List AV} : lenFact (.sl τ w xs) = (xs.length ≤ maxLen) := rfl
@[go_sem] theorem lenFact_osl {r w off len : Nat} : lenFact (.osl r w off len) = (len ≤ maxLen) := rfl
@[go_sem] theorem lenFact_nils : lenFact .nils = True := rfl
@[go_sem] theorem lenFact_str {s : ByteArray} : lenFact (.str s) = True := rfl
@[go_sem] theorem lenFact_map {r : Nat} : lenFact (.map r) = True := rfl
def vIndexR (ty : Ty) (x i : AV) : OpR :=
  match ty, x, i with
  | .str, .str s, .int _ n => ⟨0 ≤ n ∧ n < s.size, .int .u8 ((s.data.toList.getD n.toNat 0).toNat)⟩
  | _, _, _ => .no
@[go_sem] theorem vIndex_eq {t : Nat} {x i : AV} : vIndex P t x i = vIndexR (tyOf P t) x i := rfl
@[go_sem] theorem vIndexR_str {s : ByteArray} {k : IntKind} {m : Int} : vIndexR .str (.str s) (.int k m) = ⟨0 ≤ m ∧ m < s.size, .int .u8 ((s.data.toList.getD m.toNat 0).toNat)⟩ := rfl
@[go_sem] theorem vNil_ptr {r w i j : Nat} : vNil (.ptr r w i j) = ⟨True, .ptr r w i j⟩ := rfl
@[go_sem] theorem vNil_dptr {τ : Nat} {cs : List AV} : vNil (.dptr τ cs) = ⟨True, .dptr τ cs⟩ := rfl
@[go_sem] theorem vNil_fn {f : FuncId} {cs : List AV} : vNil (.fn f cs) = ⟨True, .fn f cs⟩ := rfl
@[go_sem] theorem vMax_int {k k' : IntKind} {a b : Int} : vMax (.int k a) (.int k' b) = ⟨True, .int k (if b > a then b else a)⟩ := rfl
@[go_sem] theorem vMin_int {k k' : IntKind} {a b : Int} : vMin (.int k a) (.int k' b) = ⟨True, .int k (if b < a then b else a)⟩ := rfl
@[go_sem] theorem bnd_none {d : Nat} : bnd d none = (True, (d : Int)) := rfl
@[go_sem] theorem bnd_int {d : Nat} {k : IntKind} {m : Int} : bnd d (some (.int k m)) = (True, m) := rfl
def vSliceR (P : Program) (ty : Ty) (x : AV) (lo hi : Option AV) : OpR :=
  match ty, x with
  | .sl e, .sl τ w xs =>
    ⟨P.cellsOf e = w ∧ (P.info? e).isSome = true ∧ (bnd 0 lo).1 ∧ (bnd xs.length hi).1 ∧ 0 ≤ (bnd 0 lo).2 ∧ (bnd 0 lo).2 ≤ (bnd xs.length hi).2 ∧ (bnd xs.length hi).2 ≤ xs.length, .sl τ w ((xs.take (bnd xs.length hi).2.toNat).drop (bnd 0 lo).2.toNat)⟩
  | .sl e, .osl r w off len =>
    ⟨P.cellsOf e = w ∧ (P.info? e).isSome = true ∧ (bnd 0 lo).1 ∧ (bnd len hi).1 ∧ 0 ≤ (bnd 0 lo).2 ∧ (bnd 0 lo).2 ≤ (bnd len hi).2 ∧ (bnd len hi).2 ≤ len ∧ ((bnd 0 lo).2 < len ∨ (bnd 0 lo).2 = 0), .osl r w (off + (bnd 0 lo).2.toNat) ((bnd len hi).2.toNat - (bnd 0 lo).2.toNat)⟩
  | .sl e, .nils => ⟨(P.info? e).isSome = true ∧ (bnd 0 lo).1 ∧ (bnd 0 hi).1 ∧ (bnd 0 lo).2 = 0 ∧ (bnd 0 hi).2 = 0, .nils⟩
  | .str, .str s =>
    ⟨(bnd 0 lo).1 ∧ (bnd s.size hi).1 ∧ 0 ≤ (bnd 0 lo).2 ∧ (bnd 0 lo).2 ≤ (bnd s.size hi).2 ∧ (bnd s.size hi).2 ≤ s.size, .str (s.extract (bnd 0 lo).2.toNat (bnd s.size hi).2.toNat)⟩
  | _, _ => .no
@[go_sem] theorem vSlice_eq {t : Nat} {x : AV} {lo hi : Option AV} : vSlice P t x lo hi = vSliceR P (tyOf P t) x lo hi := rfl
@[go_sem] theorem vSliceR_sl {e τ w : Nat} {xs : List AV} {lo hi : Option AV} : vSliceR P (.sl e) (.sl τ w xs) lo hi = ⟨P.cellsOf e = w ∧ (P.info? e).isSome = true ∧ (bnd 0 lo).1 ∧ (bnd xs.length hi).1 ∧ 0 ≤ (bnd 0 lo).2 ∧ (bnd 0 lo).2 ≤ (bnd xs.length hi).2 ∧ (bnd xs.length hi).2 ≤ xs.length, .sl τ w ((xs.take (bnd xs.length hi).2.toNat).drop (bnd 0 lo).2.toNat)⟩ := rfl
@[go_sem] theorem vSliceR_osl {e r w off len : Nat} {lo hi : Option AV} : vSliceR P (.sl e) (.osl r w off len) lo hi = ⟨P.cellsOf e = w ∧ (P.info? e).isSome = true ∧ (bnd 0 lo).1 ∧ (bnd len hi).1 ∧ 0 ≤ (bnd 0 lo).2 ∧ (bnd 0 lo).2 ≤ (bnd len hi).2 ∧ (bnd len hi).2 ≤ len ∧ ((bnd 0 lo).2 < len ∨ (bnd 0 lo).2 = 0), .osl r w (off + (bnd 0 lo).2.toNat) ((bnd len hi).2.toNat - (bnd 0 lo).2.toNat)⟩ := rfl
@[go_sem] theorem vSliceR_nils {e : Nat} {lo hi : Option AV} : vSliceR P (.sl e) .nils lo hi = ⟨(P.info? e).isSome = true ∧ (bnd 0 lo).1 ∧ (bnd 0 hi).1 ∧ (bnd 0 lo).2 = 0 ∧ (bnd 0 hi).2 = 0, .nils⟩ := rfl
@[go_sem] theorem vSliceR_str {s : ByteArray} {lo hi : Option AV} : vSliceR P .str (.str s) lo hi = ⟨(bnd 0 lo).1 ∧ (bnd s.size hi).1 ∧ 0 ≤ (bnd 0 lo).2 ∧ (bnd 0 lo).2 ≤ (bnd s.size hi).2 ∧ (bnd s.size hi).2 ≤ s.size, .str (s.extract (bnd 0 lo).2.toNat (bnd s.size hi).2.toNat)⟩ := rfl
def tcallR (n : Nat) (st : List Root) (args : List AV) (s : Option Fsem) : Option OpR :=
  match s with
  | some s => some ⟨(∀ x ∈ args, (cv st (posOf []) x).1) ∧ (s n (args.map fun x => (cv st (posOf []) x).2)).c, (s n (args.map fun x => (cv st (posOf []) x).2)).v⟩
  | none => none
@[go_sem] theorem tcall_fn {f : FuncId} {caps args : List AV} : tcall n T st (.fn f caps) args = tcallR n st (args ++ caps) (tget T f) := by
  simp only [tcall, tcallR]
  cases tget T f <;> rfl
@[go_sem] theorem tcallR_some {args : List AV} {s : Fsem} : tcallR n st args (some s) = some ⟨(∀ x ∈ args, (cv st (posOf []) x).1) ∧ (s n (args.map fun x => (cv st (posOf []) x).2)).c, (s n (args.map fun x => (cv st (posOf []) x).2)).v⟩ := rfl
@[go_sem] theorem tcallR_none {args : List AV} : tcallR n st args none = none := rfl
@[go_sem] theorem tget_nil {f : Nat} : tget [] f = none := rfl
@[go_sem] theorem tget_cons {f g : Nat} {s : Fsem} {T : List (Nat × Fsem)} : tget ((g, s) :: T) f = if g = f then some s else tget T f := by
  simp only [tget]
  by_cases h : g = f
  · subst h; simp
  · have : Nat.beq g f = false := by rw [← Bool.not_eq_true]; exact fun h' => h (Nat.eq_of_beq_eq_true h')
    simp [this, h]
@[go_sem] theorem cv_int {pos : Nat → Option Nat} {k : IntKind} {m : Int} : cv st pos (.int k m) = (True, .int k m) := rfl
@[go_sem] theorem cv_bool {pos : Nat → Option Nat} {b : Bool} : cv st pos (.bool b) = (True, .bool b) := rfl
@[go_sem] theorem cv_str {pos : Nat → Option Nat} {s : ByteArray} : cv st pos (.str s) = (True, .str s) := rfl
@[go_sem] theorem cv_nilp {pos : Nat → Option Nat} : cv st pos .nilp = (True, .nilp) := rfl
@[go_sem] theorem cv_nils {pos : Nat → Option Nat} : cv st pos .nils = (True, .nils) := rfl
@[go_sem] theorem cv_nili {pos : Nat → Option Nat} : cv st pos .nili = (True, .nili) := rfl
@[go_sem] theorem cv_sl {pos : Nat → Option Nat} {τ w : Nat} {xs : List AV} : cv st pos (.sl τ w xs) = (True, .sl τ w xs) := rfl
@[go_sem] theorem cv_dptr {pos : Nat → Option Nat} {τ : Nat} {xs : List AV} : cv st pos (.dptr τ xs) = (True, .dptr τ xs) := rfl
end
end Go.Ve
namespace Go.Ve
open Go.RowKit
set_option linter.unusedVariables false
set_option linter.unusedSimpArgs false
section
variable {P : Program} {n k : Nat} {T : List (Nat × Fsem)} {K : Env → Prop} {tm : List (Nat × AV)} {st : List Root} {e : Env} {d : Option Nat}
@[go_sem] theorem boxable_int {k : IntKind} {m : Int} : (AV.int k m).boxable = true := rfl
@[go_sem] theorem boxable_bool {b : Bool} : (AV.bool b).boxable = true := rfl
@[go_sem] theorem boxable_str {s : ByteArray} : (AV.str s).boxable = true := rfl
@[go_sem] theorem boxable_nilp : AV.nilp.boxable = true := rfl
@[go_sem] theorem boxable_nils : AV.nils.boxable = true := rfl
@[go_sem] theorem boxable_nili : AV.nili.boxable = true := rfl
@[go_sem] theorem boxable_ifc {t : TypeId} {v : AV} : (AV.ifc t v).boxable = true := rfl
@[go_sem] theorem boxable_sl {τ w : Nat} {xs : List AV} : (AV.sl τ w xs).boxable = true := rfl
@[go_sem] theorem boxable_dptr {τ : Nat} {xs : List AV} : (AV.dptr τ xs).boxable = true := rfl
@[go_sem] theorem boxable_osl {r w off len : Nat} : (AV.osl r w off len).boxable = true := rfl
@[go_sem] theorem boxable_ptr {r w i j : Nat} : (AV.ptr r w i j).boxable = true := rfl
@[go_sem] theorem boxable_map {r : Nat} : (AV.map r).boxable = true := rfl
@[go_sem] theorem boxable_fn {f : FuncId} {cs : List AV} : (AV.fn f cs).boxable = true := rfl
@[go_sem] theorem boxable_agg {cs : List AV} : (AV.agg cs).boxable = true := rfl
@[go_sem] theorem isD_int {k : IntKind} {m : Int} : (AV.int k m).isD = true := rfl
@[go_sem] theorem isD_bool {b : Bool} : (AV.bool b).isD = true := rfl
@[go_sem] theorem isD_str {s : ByteArray} : (AV.str s).isD = true := rfl
@[go_sem] theorem isD_nilp : AV.nilp.isD = true := rfl
@[go_sem] theorem isD_nils : AV.nils.isD = true := rfl
@[go_sem] theorem isD_nili : AV.nili.isD = true := rfl
@[go_sem] theorem isD_ifc {t : TypeId} {v : AV} : (AV.ifc t v).isD = true := rfl
@[go_sem] theorem isD_sl {τ w : Nat} {xs : List AV} : (AV.sl τ w xs).isD = true := rfl
@[go_sem] theorem isD_dptr {τ : Nat} {xs : List AV} : (AV.dptr τ xs).isD = true := rfl
/-- Go on with what is known. -/
def goK (c : Prop) (d : Option Nat) (tm : List (Nat × AV)) (st : List Root) (v : AV) (K : Env → Prop) : Prop := c ∧ K (Env.put ⟨tm, st⟩ d v)
@[congr] theorem goK_congr {c c' : Prop} {tm tm' : List (Nat × AV)} {st st' : List Root} {v v' : AV} (h1 : c = c') (h2 : tm = tm') (h3 : st = st') (h4 : v = v') : goK c d tm st v K = goK c' d tm' st' v' K := by rw [h1, h2, h3, h4]
@[go_sem] theorem goK_eq {c : Prop} {v : AV} : goK c d tm st v K = (c ∧ K (Env.put ⟨tm, st⟩ d v)) := rfl
@[go_sem] theorem o_box {t : Nat} {x : Operand} : vopd P n d (.box t x) e K = goK (e.argc x ∧ (e.arg x).boxable = true) d e.tm (e.st ++ [.box t (e.arg x).cells]) (.ptr e.st.length 0 0 0) K := by
  simp only [vopd, vop, goK, and_assoc]
@[go_sem] theorem o_alloc {t : Nat} : vopd P n d (.alloc t) e K = goK (zOk P t = true) d e.tm (e.st ++ [.box t (zcells P t)]) (.ptr e.st.length 0 0 0) K := rfl
@[go_sem] theorem o_mm {t : Nat} : vopd P n d (.makeMap t none) e K = goK True d e.tm (e.st ++ [.mp []]) (.map e.st.length) K := by
  simp only [vopd, vop, goK, true_and]
def bsK (P : Program) (n : Nat) (ty : Ty) (len : Nat) (ks : List Nat) (xs : List AV) (c : Prop) (d : Option Nat) (e : Env) (K : Env → Prop) : Prop :=
  match ty with
  | .sl et => goK (zOk P et = true ∧ 0 < P.cellsOf et ∧ len * P.cellsOf et ≤ 16777216 ∧ ks = List.range len ∧ c ∧ (∀ x ∈ xs, (emb e.st n x).c ∧ (emb e.st n x).v.cells.length = P.cellsOf et)) d e.tm
      (gones e.st (xs.flatMap fun x => (emb e.st n x).rs) ++ [.row et (P.cellsOf et) (xs.map fun x => (emb e.st n x).v)]) (.osl e.st.length (P.cellsOf et) 0 len) K
  | _ => False
@[congr] theorem bsK_congr {ty ty' : Ty} {len len' : Nat} {ks ks' : List Nat} {xs xs' : List AV} {c c' : Prop} {e e' : Env} (h1 : ty = ty') (h2 : len = len') (h3 : ks = ks') (h4 : xs = xs') (h5 : c = c') (h6 : e = e') : bsK P n ty len ks xs c d e K = bsK P n ty' len' ks' xs' c' d e' K := by rw [h1, h2, h3, h4, h5, h6]
@[go_sem] theorem o_bs {t len : Nat} {ps : Array (Nat × Operand)} : vopd P n d (.buildSlice t len ps) e K = bsK P n (tyOf P t) len (ps.toList.map (·.1)) (ps.toList.map fun p => e.arg p.2) (∀ p ∈ ps.toList, e.argc p.2) d e K := by
  simp only [vopd, vop, bsK]
  generalize tyOf P t = ty
  cases ty <;> try dsimp only
  simp only [goK, and_assoc, List.flatMap_map, List.map_map, List.forall_mem_map]
  rfl
@[go_sem] theorem bsK_sl {et len : Nat} {ks : List Nat} {xs : List AV} {c : Prop} : bsK P n (.sl et) len ks xs c d e K = goK (zOk P et = true ∧ 0 < P.cellsOf et ∧ len * P.cellsOf et ≤ 16777216 ∧ ks = List.range len ∧ c ∧ (∀ x ∈ xs, (emb e.st n x).c ∧ (emb e.st n x).v.cells.length = P.cellsOf et)) d e.tm
      (gones e.st (xs.flatMap fun x => (emb e.st n x).rs) ++ [.row et (P.cellsOf et) (xs.map fun x => (emb e.st n x).v)]) (.osl e.st.length (P.cellsOf et) 0 len) K := rfl
def msK (P : Program) (ty : Ty) (l c : AV) (cc : Prop) (d : Option Nat) (e : Env) (K : Env → Prop) : Prop :=
  match ty, l, c with
  | .sl et, .int _ l', .int _ c' => goK (cc ∧ zOk P et = true ∧ (∀ y ∈ zcells P et, y.isD = true) ∧ (zel P et).cells = zcells P et ∧ 0 < P.cellsOf et ∧ 0 ≤ l' ∧ l' ≤ c' ∧ (P.bytesOf et : Int) * c' ≤ 140737488355328 ∧ c' ≤ 140737488355328) d e.tm
        (e.st ++ [.row et (P.cellsOf et) (List.replicate l'.toNat (zel P et))]) (.osl e.st.length (P.cellsOf et) 0 l'.toNat) K
  | _, _, _ => False
@[congr] theorem msK_congr {ty ty' : Ty} {l l' c c' : AV} {cc cc' : Prop} {e e' : Env} (h1 : ty = ty') (h2 : l = l') (h3 : c = c') (h4 : cc = cc') (h5 : e = e') : msK P ty l c cc d e K = msK P ty' l' c' cc' d e' K := by rw [h1, h2, h3, h4, h5]
@[go_sem] theorem o_ms {t : Nat} {l c : Operand} : vopd P n d (.makeSlice t l c) e K = msK P (tyOf P t) (e.arg l) (e.arg c) (e.argc l ∧ e.argc c) d e K := by
  simp only [vopd, vop, msK]
  generalize tyOf P t = ty
  generalize e.arg l = al
  generalize e.arg c = ac
  cases ty <;> try dsimp only
  cases al <;> try dsimp only
  cases ac <;> try dsimp only
  simp only [goK, and_assoc]
@[go_sem] theorem msK_int {et : Nat} {k k' : IntKind} {l' c' : Int} {cc : Prop} : msK P (.sl et) (.int k l') (.int k' c') cc d e K = goK (cc ∧ zOk P et = true ∧ (∀ y ∈ zcells P et, y.isD = true) ∧ (zel P et).cells = zcells P et ∧ 0 < P.cellsOf et ∧ 0 ≤ l' ∧ l' ≤ c' ∧ (P.bytesOf et : Int) * c' ≤ 140737488355328 ∧ c' ≤ 140737488355328) d e.tm
        (e.st ++ [.row et (P.cellsOf et) (List.replicate l'.toNat (zel P et))]) (.osl e.st.length (P.cellsOf et) 0 l'.toNat) K := rfl
def stoR (P : Program) (n t : Nat) (r w i j : Nat) (x : AV) (c : Prop) (R : Option Root) (d : Option Nat) (e : Env) (K : Env → Prop) : Prop :=
  match R with
  | some (.box tt cs) => goK (c ∧ i = 0 ∧ (P.info? t).isSome = true ∧ x.boxable = true ∧ x.cells.length = P.cellsOf t ∧ j + x.cells.length ≤ cs.length) d e.tm (e.st.set r (.box tt (cs.take j ++ x.cells ++ cs.drop (j + x.cells.length)))) .undef K
  | some (.row tt w' xs) => goK (c ∧ w = w' ∧ (P.info? t).isSome = true ∧ (emb e.st n x).c ∧ (gones e.st (emb e.st n x).rs)[r]? = some (.row tt w' xs) ∧ (emb e.st n x).v.cells.length = P.cellsOf t ∧ i < xs.length ∧ j + (emb e.st n x).v.cells.length ≤ w' ∧
      (setEl (nth xs i) j (emb e.st n x).v.cells).cells = (nth xs i).cells.take j ++ (emb e.st n x).v.cells ++ (nth xs i).cells.drop (j + (emb e.st n x).v.cells.length)) d e.tm ((gones e.st (emb e.st n x).rs).set r (.row tt w' (xs.set i (setEl (nth xs i) j (emb e.st n x).v.cells)))) .undef K
  | _ => False
def stoP (P : Program) (n t : Nat) (p x : AV) (c : Prop) (d : Option Nat) (e : Env) (K : Env → Prop) : Prop :=
  match p with
  | .ptr r w i j => stoR P n t r w i j x c (e.st[r]?) d e K
  | _ => False
@[congr] theorem stoR_congr {t r w i j r' w' i' j' : Nat} {x x' : AV} {c c' : Prop} {R R' : Option Root} {e e' : Env} (h1 : r = r') (h2 : w = w') (h3 : i = i') (h4 : j = j') (h5 : x = x') (h6 : c = c') (h7 : R = R') (h8 : e = e') : stoR P n t r w i j x c R d e K = stoR P n t r' w' i' j' x' c' R' d e' K := by rw [h1, h2, h3, h4, h5, h6, h7, h8]
@[congr] theorem stoP_congr {t : Nat} {p p' x x' : AV} {c c' : Prop} {e e' : Env} (h1 : p = p') (h2 : x = x') (h3 : c = c') (h4 : e = e') : stoP P n t p x c d e K = stoP P n t p' x' c' d e' K := by rw [h1, h2, h3, h4]
@[go_sem] theorem o_store {t : Nat} {p x : Operand} : vopd P n d (.store t p x) e K = stoP P n t (e.arg p) (e.arg x) (e.argc p ∧ e.argc x) d e K := by
  simp only [vopd, vop, stoP]
  generalize e.arg p = q
  cases q <;> try dsimp only
  rename_i r w i j
  simp only [stoR]
  generalize e.st[r]? = R
  cases R with
  | none => rfl
  | some R => cases R <;> (try dsimp only) <;> simp only [goK, and_assoc]
@[go_sem] theorem stoP_ptr {t r w i j : Nat} {x : AV} {c : Prop} : stoP P n t (.ptr r w i j) x c d e K = stoR P n t r w i j x c (e.st[r]?) d e K := rfl
@[go_sem] theorem stoR_box {t r w i j tt : Nat} {cs : List AV} {x : AV} {c : Prop} : stoR P n t r w i j x c (some (.box tt cs)) d e K = goK (c ∧ i = 0 ∧ (P.info? t).isSome = true ∧ x.boxable = true ∧ x.cells.length = P.cellsOf t ∧ j + x.cells.length ≤ cs.length) d e.tm (e.st.set r (.box tt (cs.take j ++ x.cells ++ cs.drop (j + x.cells.length)))) .undef K := rfl
@[go_sem] theorem stoR_row {t r w i j tt w' : Nat} {xs : List AV} {x : AV} {c : Prop} : stoR P n t r w i j x c (some (.row tt w' xs)) d e K = goK (c ∧ w = w' ∧ (P.info? t).isSome = true ∧ (emb e.st n x).c ∧ (gones e.st (emb e.st n x).rs)[r]? = some (.row tt w' xs) ∧ (emb e.st n x).v.cells.length = P.cellsOf t ∧ i < xs.length ∧ j + (emb e.st n x).v.cells.length ≤ w' ∧
      (setEl (nth xs i) j (emb e.st n x).v.cells).cells = (nth xs i).cells.take j ++ (emb e.st n x).v.cells ++ (nth xs i).cells.drop (j + (emb e.st n x).v.cells.length)) d e.tm ((gones e.st (emb e.st n x).rs).set r (.row tt w' (xs.set i (setEl (nth xs i) j (emb e.st n x).v.cells)))) .undef K := rfl
@[go_sem] theorem emb_int {m : Nat} {k : IntKind} {a : Int} : emb st m (.int k a) = ⟨True, .int k a, []⟩ := by simp [emb, emb0, AV.isD]
@[go_sem] theorem emb_bool {m : Nat} {b : Bool} : emb st m (.bool b) = ⟨True, .bool b, []⟩ := by simp [emb, emb0, AV.isD]
@[go_sem] theorem emb_nilp {m : Nat} : emb st m .nilp = ⟨True, .nilp, []⟩ := by simp [emb, emb0, AV.isD]
@[go_sem] theorem emb_sl {m τ w : Nat} {xs : List AV} : emb st m (.sl τ w xs) = ⟨True, .sl τ w xs, []⟩ := by simp [emb, emb0, AV.isD]
@[go_sem] theorem emb_dptr {m τ : Nat} {xs : List AV} : emb st m (.dptr τ xs) = ⟨True, .dptr τ xs, []⟩ := by simp [emb, emb0, AV.isD]
@[go_sem] theorem emb0_int {m : Nat} {k : IntKind} {a : Int} : emb0 st m (.int k a) = ⟨True, .int k a, []⟩ := by simp [emb0, AV.isD]
@[go_sem] theorem emb0_bool {m : Nat} {b : Bool} : emb0 st m (.bool b) = ⟨True, .bool b, []⟩ := by simp [emb0, AV.isD]
@[go_sem] theorem emb0_nils {m : Nat} : emb0 st m .nils = ⟨True, .nils, []⟩ := by simp [emb0, AV.isD]
@[go_sem] theorem emb0_sl {m τ w : Nat} {xs : List AV} : emb0 st m (.sl τ w xs) = ⟨True, .sl τ w xs, []⟩ := by simp [emb0, AV.isD]
def embR (m r w off len : Nat) (R : Option Root) : EmbR :=
  match R with
  | some (.row t w' xs) => ⟨w = w' ∧ off + len ≤ xs.length, .sl m w ((xs.drop off).take len), [r]⟩
  | _ => ⟨False, .undef, []⟩
@[go_sem] theorem emb0_osl {m r w off len : Nat} : emb0 st m (.osl r w off len) = embR m r w off len (st[r]?) := by
  simp only [emb0, embR]
  cases st[r]? with
  | none => rfl
  | some R => cases R <;> rfl
@[go_sem] theorem emb_osl {m r w off len : Nat} : emb st m (.osl r w off len) = embR m r w off len (st[r]?) := emb0_osl
@[go_sem] theorem embR_row {m r w off len t w' : Nat} {xs : List AV} : embR m r w off len (some (.row t w' xs)) = ⟨w = w' ∧ off + len ≤ xs.length, .sl m w ((xs.drop off).take len), [r]⟩ := rfl
@[go_sem] theorem emb_agg {m : Nat} {cs : List AV} : emb st m (.agg cs) = ⟨∀ c ∈ cs, (emb0 st m c).c, .agg (cs.map fun c => (emb0 st m c).v), cs.flatMap fun c => (emb0 st m c).rs⟩ := rfl
@[go_sem] theorem gones_nil : gones st [] = st := rfl
@[go_sem] theorem gones_cons {r : Nat} {rs : List Nat} : gones st (r :: rs) = gones (st.set r .gone) rs := rfl
def appR (P : Program) (et : Nat) (c : Prop) (r w off len : Nat) (ys : List AV) (R : Option Root) (d : Option Nat) (e : Env) (K : Env → Prop) : Prop :=
  match R with
  | some (.row tt w' xs) => goK (c ∧ w = w' ∧ P.cellsOf et = w' ∧ tt = et ∧ off = 0 ∧ len = xs.length ∧ (xs.length + ys.length) * P.bytesOf et ≤ 140737488355328) d e.tm (e.st.set r .gone ++ [.row et w' (xs ++ ys)]) (.osl e.st.length w' 0 (xs.length + ys.length)) K
  | _ => False
def appK (P : Program) (t' t : Nat) (ty : Ty) (s x : AV) (c : Prop) (d : Option Nat) (e : Env) (K : Env → Prop) : Prop :=
  match ty with
  | .sl et => match s with
    | .nils => goK (c ∧ t' = t ∧ zOk P et = true ∧ 0 < P.bytesOf et ∧ 0 < P.cellsOf et ∧ (src e.st x).1 ∧ srcw x (P.cellsOf et) ∧ (src e.st x).2.length * P.bytesOf et ≤ 140737488355328) d e.tm (e.st ++ [.row et (P.cellsOf et) (src e.st x).2]) (.osl e.st.length (P.cellsOf et) 0 (src e.st x).2.length) K
    | .osl r w off len => appR P et (c ∧ t' = t ∧ zOk P et = true ∧ 0 < P.bytesOf et ∧ 0 < P.cellsOf et ∧ (src e.st x).1 ∧ srcw x (P.cellsOf et)) r w off len (src e.st x).2 (e.st[r]?) d e K
    | _ => False
  | _ => False
@[congr] theorem appR_congr {et : Nat} {c c' : Prop} {r w off len r' w' off' len' : Nat} {ys ys' : List AV} {R R' : Option Root} {e e' : Env} (h1 : c = c') (h2 : r = r') (h3 : w = w') (h4 : off = off') (h5 : len = len') (h6 : ys = ys') (h7 : R = R') (h8 : e = e') : appR P et c r w off len ys R d e K = appR P et c' r' w' off' len' ys' R' d e' K := by rw [h1, h2, h3, h4, h5, h6, h7, h8]
@[congr] theorem appK_congr {t' t : Nat} {ty ty' : Ty} {s s' x x' : AV} {c c' : Prop} {e e' : Env} (h1 : ty = ty') (h2 : s = s') (h3 : x = x') (h4 : c = c') (h5 : e = e') : appK P t' t ty s x c d e K = appK P t' t ty' s' x' c' d e' K := by rw [h1, h2, h3, h4, h5]
@[go_sem] theorem o_app {s x : Operand} {t t' : Nat} : vopd P n d (.call ⟨.builtin .append, #[s, x], #[t, t']⟩) e K = appK P t' t (tyOf P t) (e.arg s) (e.arg x) (e.argc s ∧ e.argc x) d e K := by
  simp only [vopd, vop, appK]
  generalize tyOf P t = ty
  cases ty <;> try dsimp only
  generalize e.arg s = as
  cases as <;> (try dsimp only) <;> try simp only [goK, and_false, and_assoc]
  rename_i et r w off len
  simp only [appR]
  generalize e.st[r]? = R
  cases R with
  | none => simp only [and_false]
  | some R => cases R <;> (try dsimp only) <;> simp only [goK, and_false, and_assoc]
@[go_sem] theorem appK_nils {t' t et : Nat} {x : AV} {c : Prop} : appK P t' t (.sl et) .nils x c d e K = goK (c ∧ t' = t ∧ zOk P et = true ∧ 0 < P.bytesOf et ∧ 0 < P.cellsOf et ∧ (src e.st x).1 ∧ srcw x (P.cellsOf et) ∧ (src e.st x).2.length * P.bytesOf et ≤ 140737488355328) d e.tm (e.st ++ [.row et (P.cellsOf et) (src e.st x).2]) (.osl e.st.length (P.cellsOf et) 0 (src e.st x).2.length) K := rfl
@[go_sem] theorem appK_osl {t' t et r w off len : Nat} {x : AV} {c : Prop} : appK P t' t (.sl et) (.osl r w off len) x c d e K = appR P et (c ∧ t' = t ∧ zOk P et = true ∧ 0 < P.bytesOf et ∧ 0 < P.cellsOf et ∧ (src e.st x).1 ∧ srcw x (P.cellsOf et)) r w off len (src e.st x).2 (e.st[r]?) d e K := rfl
@[go_sem] theorem appR_row {et r w off len tt w' : Nat} {xs ys : List AV} {c : Prop} : appR P et c r w off len ys (some (.row tt w' xs)) d e K = goK (c ∧ w = w' ∧ P.cellsOf et = w' ∧ tt = et ∧ off = 0 ∧ len = xs.length ∧ (xs.length + ys.length) * P.bytesOf et ≤ 140737488355328) d e.tm (e.st.set r .gone ++ [.row et w' (xs ++ ys)]) (.osl e.st.length w' 0 (xs.length + ys.length)) K := rfl
@[go_sem] theorem src_sl {τ w : Nat} {ys : List AV} : src st (.sl τ w ys) = (True, ys) := rfl
@[go_sem] theorem src_nils : src st .nils = (True, []) := rfl
def srcR (w off len : Nat) (R : Option Root) : Prop × List AV :=
  match R with
  | some (.row _ w' xs) => (w = w' ∧ off + len ≤ xs.length, (xs.drop off).take len)
  | _ => (False, [])
@[go_sem] theorem src_osl {r w off len : Nat} : src st (.osl r w off len) = srcR w off len (st[r]?) := by
  simp only [src, srcR]
  cases st[r]? with
  | none => rfl
  | some R => cases R <;> rfl
@[go_sem] theorem srcR_row {w off len t w' : Nat} {xs : List AV} : srcR w off len (some (.row t w' xs)) = (w = w' ∧ off + len ≤ xs.length, (xs.drop off).take len) := rfl
@[go_sem] theorem srcw_sl {τ w k : Nat} {ys : List AV} : srcw (.sl τ w ys) k = (w = k) := rfl
@[go_sem] theorem srcw_osl {r w off len k : Nat} : srcw (.osl r w off len) k = (w = k) := rfl
@[go_sem] theorem srcw_nils {k : Nat} : srcw .nils k = True := rfl
def cpR (P : Program) (et : Nat) (c : Prop) (x : AV) (r w off len : Nat) (ys : Prop × List AV) (R : Option Root) (d : Option Nat) (e : Env) (K : Env → Prop) : Prop :=
  match R with
  | some (.row tt w' xs) => goK (c ∧ P.cellsOf et = 1 ∧ (P.info? et).isSome = true ∧ w = 1 ∧ w' = 1 ∧ off + len ≤ xs.length ∧ ys.1 ∧ srcw x 1) d e.tm (e.st.set r (.row tt 1 (xs.take off ++ ys.2.take (min ys.2.length len) ++ xs.drop (off + min ys.2.length len)))) (.int .i64 (min ys.2.length len : Nat)) K
  | _ => False
def cpK (P : Program) (ty : Ty) (s x : AV) (c : Prop) (d : Option Nat) (e : Env) (K : Env → Prop) : Prop :=
  match ty, s with
  | .sl et, .osl r w off len => cpR P et c x r w off len (src e.st x) (e.st[r]?) d e K
  | _, _ => False
@[congr] theorem cpR_congr {et : Nat} {c c' : Prop} {x x' : AV} {r w off len r' w' off' len' : Nat} {ys ys' : Prop × List AV} {R R' : Option Root} {e e' : Env} (h1 : c = c') (h0 : x = x') (h2 : r = r') (h3 : w = w') (h4 : off = off') (h5 : len = len') (h6 : ys = ys') (h7 : R = R') (h8 : e = e') : cpR P et c x r w off len ys R d e K = cpR P et c' x' r' w' off' len' ys' R' d e' K := by rw [h1, h0, h2, h3, h4, h5, h6, h7, h8]
@[congr] theorem cpK_congr {ty ty' : Ty} {s s' x x' : AV} {c c' : Prop} {e e' : Env} (h1 : ty = ty') (h2 : s = s') (h3 : x = x') (h4 : c = c') (h5 : e = e') : cpK P ty s x c d e K = cpK P ty' s' x' c' d e' K := by rw [h1, h2, h3, h4, h5]
@[go_sem] theorem o_copy {s x : Operand} {t t' : Nat} : vopd P n d (.call ⟨.builtin .copy, #[s, x], #[t, t']⟩) e K = cpK P (tyOf P t) (e.arg s) (e.arg x) (e.argc s ∧ e.argc x) d e K := by
  simp only [vopd, vop, cpK]
  generalize tyOf P t = ty
  generalize e.arg s = as
  cases ty <;> try dsimp only
  cases as <;> try dsimp only
  rename_i et r w off len
  simp only [cpR]
  generalize e.st[r]? = R
  cases R with
  | none => rfl
  | some R => cases R <;> (try dsimp only) <;> simp only [goK, and_assoc]
@[go_sem] theorem cpK_osl {et r w off len : Nat} {x : AV} {c : Prop} : cpK P (.sl et) (.osl r w off len) x c d e K = cpR P et c x r w off len (src e.st x) (e.st[r]?) d e K := rfl
@[go_sem] theorem cpR_row {et r w off len tt w' : Nat} {x : AV} {xs : List AV} {ys : Prop × List AV} {c : Prop} : cpR P et c x r w off len ys (some (.row tt w' xs)) d e K = goK (c ∧ P.cellsOf et = 1 ∧ (P.info? et).isSome = true ∧ w = 1 ∧ w' = 1 ∧ off + len ≤ xs.length ∧ ys.1 ∧ srcw x 1) d e.tm (e.st.set r (.row tt 1 (xs.take off ++ ys.2.take (min ys.2.length len) ++ xs.drop (off + min ys.2.length len)))) (.int .i64 (min ys.2.length len : Nat)) K := rfl
def muS (P : Program) (kt : Nat) (k v : AV) (c : Prop) (r : Nat) (s : Option (List (AV × AV))) (d : Option Nat) (e : Env) (K : Env → Prop) : Prop :=
  match s with
  | some kv' => goK (c ∧ keyOk P kt k = true ∧ v.isD = true) d e.tm (e.st.set r (.mp kv')) .undef K
  | none => False
def muR (P : Program) (kt : Nat) (k v : AV) (c : Prop) (r : Nat) (R : Option Root) (d : Option Nat) (e : Env) (K : Env → Prop) : Prop :=
  match R with
  | some (.mp kv) => muS P kt k v c r (kvSet kv k v) d e K
  | _ => False
def muK (P : Program) (ty : Ty) (mp k v : AV) (c : Prop) (d : Option Nat) (e : Env) (K : Env → Prop) : Prop :=
  match ty, mp with
  | .mp kt _, .map r => muR P kt k v c r (e.st[r]?) d e K
  | _, _ => False
@[congr] theorem muS_congr {kt : Nat} {k k' v v' : AV} {c c' : Prop} {r r' : Nat} {s s' : Option (List (AV × AV))} {e e' : Env} (h1 : k = k') (h2 : v = v') (h3 : c = c') (h4 : r = r') (h5 : s = s') (h6 : e = e') : muS P kt k v c r s d e K = muS P kt k' v' c' r' s' d e' K := by rw [h1, h2, h3, h4, h5, h6]
@[congr] theorem muR_congr {kt : Nat} {k k' v v' : AV} {c c' : Prop} {r r' : Nat} {s s' : Option Root} {e e' : Env} (h1 : k = k') (h2 : v = v') (h3 : c = c') (h4 : r = r') (h5 : s = s') (h6 : e = e') : muR P kt k v c r s d e K = muR P kt k' v' c' r' s' d e' K := by rw [h1, h2, h3, h4, h5, h6]
@[congr] theorem muK_congr {ty ty' : Ty} {m m' k k' v v' : AV} {c c' : Prop} {e e' : Env} (h0 : ty = ty') (h4 : m = m') (h1 : k = k') (h2 : v = v') (h3 : c = c') (h6 : e = e') : muK P ty m k v c d e K = muK P ty' m' k' v' c' d e' K := by rw [h0, h1, h2, h3, h4, h6]
@[go_sem] theorem o_mu {t : Nat} {m k v : Operand} : vopd P n d (.mapUpdate t m k v) e K = muK P (tyOf P t) (e.arg m) (e.arg k) (e.arg v) (e.argc m ∧ e.argc k ∧ e.argc v) d e K := by
  simp only [vopd, vop, muK]
  generalize tyOf P t = ty
  generalize e.arg m = am
  cases ty <;> try dsimp only
  cases am <;> try dsimp only
  rename_i kt et r
  simp only [muR]
  generalize e.st[r]? = R
  cases R with
  | none => rfl
  | some R =>
    cases R <;> try dsimp only
    rename_i kv
    simp only [muS]
    generalize kvSet kv (e.arg k) (e.arg v) = kv'
    cases kv' <;> (try dsimp only) <;> simp only [goK, and_assoc]
@[go_sem] theorem muK_map {kt et r : Nat} {k v : AV} {c : Prop} : muK P (.mp kt et) (.map r) k v c d e K = muR P kt k v c r (e.st[r]?) d e K := rfl
@[go_sem] theorem muR_mp {kt r : Nat} {k v : AV} {c : Prop} {kv : List (AV × AV)} : muR P kt k v c r (some (.mp kv)) d e K = muS P kt k v c r (kvSet kv k v) d e K := rfl
@[go_sem] theorem muS_some {kt r : Nat} {k v : AV} {c : Prop} {kv' : List (AV × AV)} : muS P kt k v c r (some kv') d e K = goK (c ∧ keyOk P kt k = true ∧ v.isD = true) d e.tm (e.st.set r (.mp kv')) .undef K := rfl
@[congr] theorem VCall_congr {f f' : AV} {args args' : List AV} {e e' : Env} {K : Env → AV → Prop} (h1 : f = f') (h2 : args = args') (h3 : e = e') : VCall P n f args e K = VCall P n f' args' e' K := by rw [h1, h2, h3]
/-- What comes behind a call, not looked into before the call has come back. -/
def holdK (K : Env → Prop) (d : Option Nat) (e : Env) (v : AV) : Prop := K (e.put d v)
@[congr] theorem holdK_congr {e e' : Env} {v v' : AV} (h1 : e = e') (h2 : v = v') : holdK K d e v = holdK K d e' v' := by rw [h1, h2]
@[go_sem] theorem holdK_eq {tm : List (Nat × AV)} {st : List Root} {v : AV} : holdK K d ⟨tm, st⟩ v = K (Env.put ⟨tm, st⟩ d v) := rfl
@[go_sem] theorem o_call {f : Operand} {args : Array Operand} {t : Array Nat} : vopd P n d (.call ⟨.value f, args, t⟩) e K = ((e.argc f ∧ ∀ x ∈ args.toList, e.argc x) ∧ VCall P n (e.arg f) (args.toList.map e.arg) e (holdK K d)) := by
  simp only [vopd, vop, and_assoc]
  rfl
@[go_sem] theorem cv_fn {pos : Nat → Option Nat} {f : FuncId} {caps : List AV} : cv st pos (.fn f caps) = (∀ c ∈ caps, (cv0 st pos c).1, .fn f (caps.map fun c => (cv0 st pos c).2)) := rfl
@[go_sem] theorem cv_agg {pos : Nat → Option Nat} {cs : List AV} : cv st pos (.agg cs) = (∀ c ∈ cs, (cv1 st pos c).1, .agg (cs.map fun c => (cv1 st pos c).2)) := rfl
@[go_sem] theorem cv_osl' {pos : Nat → Option Nat} {r w off len : Nat} : cv st pos (.osl r w off len) = cv0 st pos (.osl r w off len) := rfl
@[go_sem] theorem cv_ptr' {pos : Nat → Option Nat} {r w i j : Nat} : cv st pos (.ptr r w i j) = cv0 st pos (.ptr r w i j) := rfl
@[go_sem] theorem cv_map' {pos : Nat → Option Nat} {r : Nat} : cv st pos (.map r) = cv0 st pos (.map r) := rfl
@[go_sem] theorem cv1_fn {pos : Nat → Option Nat} {f : FuncId} {caps : List AV} : cv1 st pos (.fn f caps) = (∀ c ∈ caps, (cv0 st pos c).1, .fn f (caps.map fun c => (cv0 st pos c).2)) := rfl
end
section
variable {st : List Root} {pos : Nat → Option Nat}
@[go_sem] theorem cv1_int {k : IntKind} {m : Int} : cv1 st pos (.int k m) = (True, .int k m) := rfl
@[go_sem] theorem cv1_bool {b : Bool} : cv1 st pos (.bool b) = (True, .bool b) := rfl
@[go_sem] theorem cv1_str {s : ByteArray} : cv1 st pos (.str s) = (True, .str s) := rfl
@[go_sem] theorem cv1_nilp : cv1 st pos .nilp = (True, .nilp) := rfl
@[go_sem] theorem cv1_nils : cv1 st pos .nils = (True, .nils) := rfl
@[go_sem] theorem cv1_nili : cv1 st pos .nili = (True, .nili) := rfl
@[go_sem] theorem cv1_sl {τ w : Nat} {xs : List AV} : cv1 st pos (.sl τ w xs) = (True, .sl τ w xs) := rfl
@[go_sem] theorem cv1_dptr {τ : Nat} {xs : List AV} : cv1 st pos (.dptr τ xs) = (True, .dptr τ xs) := rfl
@[go_sem] theorem cv1_osl {r w off len : Nat} : cv1 st pos (.osl r w off len) = cv0 st pos (.osl r w off len) := rfl
@[go_sem] theorem cv1_ptr {r w i j : Nat} : cv1 st pos (.ptr r w i j) = cv0 st pos (.ptr r w i j) := rfl
@[go_sem] theorem cv1_map {r : Nat} : cv1 st pos (.map r) = cv0 st pos (.map r) := rfl
@[go_sem] theorem cv0_int {k : IntKind} {m : Int} : cv0 st pos (.int k m) = (True, .int k m) := rfl
@[go_sem] theorem cv0_bool {b : Bool} : cv0 st pos (.bool b) = (True, .bool b) := rfl
@[go_sem] theorem cv0_str {s : ByteArray} : cv0 st pos (.str s) = (True, .str s) := rfl
@[go_sem] theorem cv0_nilp : cv0 st pos .nilp = (True, .nilp) := rfl
@[go_sem] theorem cv0_nils : cv0 st pos .nils = (True, .nils) := rfl
@[go_sem] theorem cv0_nili : cv0 st pos .nili = (True, .nili) := rfl
@[go_sem] theorem cv0_sl {τ w : Nat} {xs : List AV} : cv0 st pos (.sl τ w xs) = (True, .sl τ w xs) := rfl
@[go_sem] theorem cv0_dptr {τ : Nat} {xs : List AV} : cv0 st pos (.dptr τ xs) = (True, .dptr τ xs) := rfl
@[go_sem] theorem cvD_int {k : IntKind} {m : Int} : cvD st pos (.int k m) = (True, .int k m) := rfl
@[go_sem] theorem cvD_bool {b : Bool} : cvD st pos (.bool b) = (True, .bool b) := rfl
@[go_sem] theorem cvD_str {s : ByteArray} : cvD st pos (.str s) = (True, .str s) := rfl
@[go_sem] theorem cvD_nilp : cvD st pos .nilp = (True, .nilp) := rfl
@[go_sem] theorem cvD_nils : cvD st pos .nils = (True, .nils) := rfl
@[go_sem] theorem cvD_nili : cvD st pos .nili = (True, .nili) := rfl
@[go_sem] theorem cvD_sl {τ w : Nat} {xs : List AV} : cvD st pos (.sl τ w xs) = (True, .sl τ w xs) := rfl
@[go_sem] theorem cvD_dptr {τ : Nat} {xs : List AV} : cvD st pos (.dptr τ xs) = (True, .dptr τ xs) := rfl
@[go_sem] theorem cvD_ptr {r w i j : Nat} : cvD st pos (.ptr r w i j) = (True, .undef) := rfl
@[go_sem] theorem cvD_map {r : Nat} : cvD st pos (.map r) = (True, .undef) := rfl
@[go_sem] theorem cvD_fn {f : FuncId} {caps : List AV} : cvD st pos (.fn f caps) = (True, .undef) := rfl
def cvDo (p : Option Nat) (w off len : Nat) (R : Option Root) : Prop × AV :=
  match p with
  | some _ => (True, .undef)
  | none => match R with
    | some (.row _ w' xs) => (w = w' ∧ off + len ≤ xs.length, .sl 0 w ((xs.drop off).take len))
    | _ => (True, .undef)
@[go_sem] theorem cvDo_some {i w off len : Nat} {R : Option Root} : cvDo (some i) w off len R = (True, .undef) := rfl
@[go_sem] theorem cvDo_row {w off len t w' : Nat} {xs : List AV} : cvDo none w off len (some (.row t w' xs)) = (w = w' ∧ off + len ≤ xs.length, .sl 0 w ((xs.drop off).take len)) := rfl
def cv0o (p : Option Nat) (w off len : Nat) (R : Option Root) : Prop × AV :=
  match p with
  | some k => (True, .osl k w off len)
  | none => cvDo none w off len R
@[go_sem] theorem cv0_osl {r w off len : Nat} : cv0 st pos (.osl r w off len) = cv0o (pos r) w off len (st[r]?) := by
  simp only [cv0, cv0o]
  cases h : pos r with
  | some _ => rfl
  | none =>
    simp only [cvD, h, cvDo]
    cases st[r]? with
    | none => rfl
    | some R => cases R <;> rfl
@[go_sem] theorem cv0o_some {i w off len : Nat} {R : Option Root} : cv0o (some i) w off len R = (True, .osl i w off len) := rfl
@[go_sem] theorem cv0o_row {w off len t w' : Nat} {xs : List AV} : cv0o none w off len (some (.row t w' xs)) = (w = w' ∧ off + len ≤ xs.length, .sl 0 w ((xs.drop off).take len)) := rfl
def cv0p (st : List Root) (pos : Nat → Option Nat) (p : Option Nat) (w i j : Nat) (R : Option Root) : Prop × AV :=
  match p with
  | some k => (True, .ptr k w i j)
  | none => match R with
    | some (.box _ cs) => (i = 0 ∧ ∀ c ∈ cs.drop j, (cvD st pos c).1, .dptr 0 ((cs.drop j).map fun c => (cvD st pos c).2))
    | some (.row _ w' xs) => (w = w' ∧ i < xs.length, .dptr 0 ((nth xs i).cells.drop j))
    | _ => (True, .undef)
@[go_sem] theorem cv0_ptr {r w i j : Nat} : cv0 st pos (.ptr r w i j) = cv0p st pos (pos r) w i j (st[r]?) := by
  simp only [cv0, cv0p]
  cases h : pos r with
  | some _ => rfl
  | none =>
    cases st[r]? with
    | none => rfl
    | some R => cases R <;> rfl
@[go_sem] theorem cv0p_some {q w i j : Nat} {R : Option Root} : cv0p st pos (some q) w i j R = (True, .ptr q w i j) := rfl
@[go_sem] theorem cv0p_box {w i j t : Nat} {cs : List AV} : cv0p st pos none w i j (some (.box t cs)) = (i = 0 ∧ ∀ c ∈ cs.drop j, (cvD st pos c).1, .dptr 0 ((cs.drop j).map fun c => (cvD st pos c).2)) := rfl
@[go_sem] theorem cv0p_row {w i j t w' : Nat} {xs : List AV} : cv0p st pos none w i j (some (.row t w' xs)) = (w = w' ∧ i < xs.length, .dptr 0 ((nth xs i).cells.drop j)) := rfl
@[go_sem] theorem posOf_nil {q : Nat} : posOf [] q = none := rfl
@[go_sem] theorem posOf_cons {x q : Nat} {m : List Nat} : posOf (x :: m) q = if x = q then some 0 else (posOf m q).map (· + 1) := rfl
end
section
variable {P : Program} {st : List Root} {n : Nat} {e : Env}
/-- What is owed, step by step: what is given, then how it is handed over. -/
def owP (n : Nat) (st : List Root) (o : OpR) (r : AV) : Prop := o.c ∧ (embT st n o.v).c ∧ Nz false (embT st n o.v).v ∧ (embT st n o.v).v = r
@[go_sem] theorem retP_ret {rs : List RV} {r : AV} : retP P n rs r .ret e = owP n e.st (resAV P e rs) r := rfl
@[go_sem] theorem retP_normal {rs : List RV} {r : AV} : retP P n rs r .normal e = owP n e.st (resAV P e rs) r := rfl
/-- A value, embedded, is what is owed. -/
def owE (c : Prop) (o : EmbR) (r : AV) : Prop := c ∧ o.c ∧ Nz false o.v ∧ o.v = r
@[go_sem] theorem owP_eq {c : Prop} {v r : AV} : owP n st ⟨c, v⟩ r = owE c (embT st n v) r := rfl
@[go_sem] theorem owE_eq {c c' : Prop} {v r : AV} {rs : List Nat} : owE c ⟨c', v, rs⟩ r = (c ∧ c' ∧ Nz false v ∧ v = r) := rfl
@[go_sem] theorem retM_ret {k : Nat} {rs : List RV} {ρ : List Nat} {rout : List Root} {r : AV} : retM P k rs ρ rout r .ret e = ((resAV P e rs).c ∧ ρ.Nodup ∧ (∀ p < k, ρ[p]? = some p) ∧ (∀ r ∈ ρ, r < e.st.length) ∧ rout = rinOf e.st ρ ∧ r = (resAV P e rs).v.rnp (posOf ρ) ∧ (∀ R ∈ rout, Rz R) ∧ Nz true r) := rfl
@[go_sem] theorem retM_normal {k : Nat} {rs : List RV} {ρ : List Nat} {rout : List Root} {r : AV} : retM P k rs ρ rout r .normal e = ((resAV P e rs).c ∧ ρ.Nodup ∧ (∀ p < k, ρ[p]? = some p) ∧ (∀ r ∈ ρ, r < e.st.length) ∧ rout = rinOf e.st ρ ∧ r = (resAV P e rs).v.rnp (posOf ρ) ∧ (∀ R ∈ rout, Rz R) ∧ Nz true r) := rfl
@[go_sem] theorem resAV_one {r : RV} : resAV P e [r] = rvV P e r := rfl
@[go_sem] theorem resAV_none : resAV P e [] = ⟨∀ r ∈ ([] : List RV), (rvV P e r).c, .tup []⟩ := rfl
@[go_sem] theorem resAV_two {t u : RV} : resAV P e [t, u] = ⟨∀ r ∈ [t, u], (rvV P e r).c, .tup [(rvV P e t).v, (rvV P e u).v]⟩ := rfl
@[go_sem] theorem resAV_three {t u v : RV} : resAV P e [t, u, v] = ⟨∀ r ∈ [t, u, v], (rvV P e r).c, .tup [(rvV P e t).v, (rvV P e u).v, (rvV P e v).v]⟩ := rfl
@[go_sem] theorem rvV_t {t : Nat} : rvV P e (.t t) = ⟨True, tv e.tm t⟩ := rfl
@[go_sem] theorem rvV_c {a t : Nat} : rvV P e (.c a t) = ⟨(behind e.st (tv e.tm a)).1 ∧ (ldv P t (behind e.st (tv e.tm a)).2).c, (ldv P t (behind e.st (tv e.tm a)).2).v⟩ := rfl
@[go_sem] theorem embT_tup {m : Nat} {cs : List AV} : embT st m (.tup cs) = ⟨∀ c ∈ cs, (emb st m c).c, .tup (cs.map fun c => (emb st m c).v), cs.flatMap fun c => (emb st m c).rs⟩ := rfl
@[go_sem] theorem embT_int {m : Nat} {k : IntKind} {a : Int} : embT st m (.int k a) = ⟨True, .int k a, []⟩ := emb_int (st := st) (m := m)
@[go_sem] theorem embT_bool {m : Nat} {b : Bool} : embT st m (.bool b) = ⟨True, .bool b, []⟩ := emb_bool (st := st) (m := m)
@[go_sem] theorem embT_nilp {m : Nat} : embT st m .nilp = ⟨True, .nilp, []⟩ := emb_nilp (st := st) (m := m)
@[go_sem] theorem embT_sl {m τ w : Nat} {xs : List AV} : embT st m (.sl τ w xs) = ⟨True, .sl τ w xs, []⟩ := emb_sl (st := st) (m := m)
@[go_sem] theorem embT_dptr {m τ : Nat} {xs : List AV} : embT st m (.dptr τ xs) = ⟨True, .dptr τ xs, []⟩ := emb_dptr (st := st) (m := m)
@[go_sem] theorem embT_osl {m r w off len : Nat} : embT st m (.osl r w off len) = embR m r w off len (st[r]?) := emb0_osl
@[go_sem] theorem embT_agg {m : Nat} {cs : List AV} : embT st m (.agg cs) = ⟨∀ c ∈ cs, (emb0 st m c).c, .agg (cs.map fun c => (emb0 st m c).v), cs.flatMap fun c => (emb0 st m c).rs⟩ := rfl
attribute [go_sem] nz_undef nz_int nz_bool nz_str nz_nilp nz_nils nz_nili nz_ifc nz_sl nz_dptr nz_fn nz_agg nz_tup nz_osl nz_ptr nz_map
end
section
variable {e : Env}
@[go_sem] theorem vivs_nil : vivs [] e = e := rfl
@[go_sem] theorem vivs_cons {x : Nat × Nat × Nat} {l : List (Nat × Nat × Nat)} : vivs (x :: l) e = vivs l (vivT e x) := rfl
def vivV (v : AV) (t et w : Nat) (e : Env) : Env :=
  match v with
  | .nils => ⟨(t, .osl e.st.length w 0 0) :: e.tm, e.st ++ [.row et w []]⟩
  | _ => e
@[go_sem] theorem vivT_eq {t et w : Nat} : vivT e (t, et, w) = vivV (tv e.tm t) t et w e := by
  simp only [vivT, vivV]
  cases tv e.tm t <;> rfl
@[go_sem] theorem vivV_nils {t et w : Nat} {tm : List (Nat × AV)} {st : List Root} : vivV .nils t et w ⟨tm, st⟩ = ⟨(t, .osl st.length w 0 0) :: tm, st ++ [.row et w []]⟩ := rfl
@[go_sem] theorem vivV_osl {r w' off len t et w : Nat} : vivV (.osl r w' off len) t et w e = e := rfl
@[go_sem] theorem rootOf_osl {r w off len : Nat} : rootOf (.osl r w off len) = r := rfl
@[go_sem] theorem rootOf_ptr {r w i j : Nat} : rootOf (.ptr r w i j) = r := rfl
@[go_sem] theorem rootOf_map {r : Nat} : rootOf (.map r) = r := rfl
variable {pos : Nat → Option Nat}
@[go_sem] theorem rinOf_nil {st : List Root} : rinOf st [] = [] := rfl
@[go_sem] theorem rootrnp_gone : Root.rnp pos .gone = .gone := rfl
@[go_sem] theorem rootrnp_row {t w : Nat} {xs : List AV} : Root.rnp pos (.row t w xs) = .row t w xs := rfl
@[go_sem] theorem rootrnp_box {t : Nat} {xs : List AV} : Root.rnp pos (.box t xs) = .box t (xs.map (AV.rnp1 pos)) := rfl
@[go_sem] theorem rootrnp_mp {kv : List (AV × AV)} : Root.rnp pos (.mp kv) = .mp kv := rfl
end
end Go.Ve
namespace Go.Ve
open Go.RowKit
set_option linter.unusedVariables false
set_option linter.unusedSimpArgs false
/-- What a function gives, told by a family of arguments. -/
noncomputable def semOf {ι : Type} (args : ι → List AV) (pre : ι → Prop) (res : Nat → ι → AV) : Fsem := fun n a =>
  ⟨∃ i, args i = a ∧ pre i, open Classical in if h : ∃ i, args i = a ∧ pre i then res n (Classical.choose h) else if h : ∃ i, args i = a then res n (Classical.choose h) else .undef⟩
theorem semOf_pure {P : Program} {f : FuncId} {ι : Type} {args : ι → List AV} {pre : ι → Prop} {res : Nat → ι → AV} (h : ∀ (i : ι) (n : Nat), 2 ≤ n → pre i → SatM P n f [] (args i) [] (res n i)) : Pure P f (semOf args pre res) := by
  intro n a h2 hc
  have hc' : ∃ i, args i = a ∧ pre i := hc
  simp only [semOf, dif_pos hc']
  obtain ⟨h3, h4⟩ := Classical.choose_spec hc'
  have := h (Classical.choose hc') n h2 h4
  rw [h3] at this
  exact this
theorem semOf_eq {ι : Type} {args : ι → List AV} {pre : ι → Prop} {res : Nat → ι → AV} {n : Nat} {a : List AV} (i : ι) (ha : args i = a) (hi : ∀ j, args j = args i → (pre j ↔ pre i) ∧ res n j = res n i) : semOf args pre res n a = ⟨pre i, res n i⟩ := by
  subst ha
  have h1 : (∃ j, args j = args i ∧ pre j) = pre i := propext ⟨fun ⟨j, h, hp⟩ => (hi j h).1.1 hp, fun h => ⟨i, rfl, h⟩⟩
  have h2 : ∃ j, args j = args i := ⟨i, rfl⟩
  simp only [semOf]
  congr 1
  split
  · rename_i h
    exact (hi _ (Classical.choose_spec h).1).2
  · exact (hi _ (Classical.choose_spec h2)).2
section
variable {P : Program} {n k : Nat} {T : List (Nat × Fsem)}
/-- A contract out of a body. -/
theorem SatP.of_body {f : FuncId} {fn : Func} {T : List (Nat × Fsem)} {s : SCode} {rs : List RV} {nt : Nat} {args : List AV} {r : AV} (hT : Table P T) (hm : P.follows .mixedOrders = true) (hf : P.funcs[f]? = some fn) (hsl : slimF fn = some (s, rs, nt)) (ho : okF T fn = true) (h2 : 2 ≤ n)
    (hnt : args.length ≤ nt) (h : vc P n 0 T s (retP P n rs r) ⟨enT 0 args, []⟩) : SatM P n f [] args [] r := by
  have : Pure P f (fun m a => ⟨m = n ∧ a = args, r⟩) := by
    refine Pure.of_body hT hm hf hsl ho fun m a hm2 hc => ?_
    obtain ⟨rfl, rfl⟩ := hc
    exact ⟨hnt, h⟩
  exact this n args h2 ⟨rfl, rfl⟩
/-- A loop whose next state is told; the roots stay as they are. -/
theorem VW_for (hT : Table P T) (h2 : 2 ≤ n) (hm : P.follows .mixedOrders = true) {a : SCode} {Q : Exit → Env → Prop} {e : Env} {σ : Type} (I : σ → Env) (ok : σ → Prop) (μ : σ → Nat) (nx : σ → σ) (s0 : σ) (h0 : ok s0) (he : SubI e (I s0))
    (step : ∀ s, ok s → vc P n k T a (thenQ (fun e' => μ (nx s) < μ s ∧ ok (nx s) ∧ SubI e' (I (nx s))) Q) (I s)) : VW P n k T (.loop a) Q e :=
  VW_loop hT h2 hm I ok μ s0 h0 he.sub _ (fun s e' ⟨h1, h2, h3⟩ => ⟨nx s, h1, h2, h3.sub⟩) step
end
end Go.Ve
