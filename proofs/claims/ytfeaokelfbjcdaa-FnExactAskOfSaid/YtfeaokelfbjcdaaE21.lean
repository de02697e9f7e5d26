/- The engine, part 21: operations that make or change roots, calls and ends in rewriting steps. No condition. -/
import Derived.Test.YtfeaokelfbjcdaaE20
namespace Go.Ve
open Go.RowKit
set_option linter.unusedVariables false
set_option linter.unusedSimpArgs false

section
variable {P : Program} {n k : Nat} {T : List (Nat × Fsem)} {K : Env → Prop} {tm : List (Nat × AV)} {st : List Root} {e : Env} {d : Option Nat}

@[go_sem] theorem boxable_int {k : IntKind} {m : Int} : (AV.int k m).boxable = true := rfl
@[go_sem] theorem boxable_bool {b : Bool} : (AV.bool b).boxable = true := rfl
@[go_sem] theorem boxable_str {s : ByteArray} : (AV.str s).boxable = true := rfl
@[go_sem] theorem boxable_nilp : AV.nilp.boxable = true := rfl
@[go_sem] theorem boxable_nils : AV.nils.boxable = true := rfl
@[go_sem] theorem boxable_nili : AV.nili.boxable = true := rfl
@[go_sem] theorem boxable_ifc {t : TypeId} {v : AV} : (AV.ifc t v).boxable = true := rfl
@[go_sem] theorem boxable_sl {τ w : Nat} {xs : List AV} : (AV.sl τ w xs).boxable = true := rfl
@[go_sem] theorem boxable_dptr {τ : Nat} {xs : List AV} : (AV.dptr τ xs).boxable = true := rfl
@[go_sem] theorem boxable_osl {r w off len : Nat} : (AV.osl r w off len).boxable = true := rfl
@[go_sem] theorem boxable_ptr {r w i j : Nat} : (AV.ptr r w i j).boxable = true := rfl
@[go_sem] theorem boxable_map {r : Nat} : (AV.map r).boxable = true := rfl
@[go_sem] theorem boxable_fn {f : FuncId} {cs : List AV} : (AV.fn f cs).boxable = true := rfl
@[go_sem] theorem boxable_agg {cs : List AV} : (AV.agg cs).boxable = true := rfl
@[go_sem] theorem isD_int {k : IntKind} {m : Int} : (AV.int k m).isD = true := rfl
@[go_sem] theorem isD_bool {b : Bool} : (AV.bool b).isD = true := rfl
@[go_sem] theorem isD_str {s : ByteArray} : (AV.str s).isD = true := rfl
@[go_sem] theorem isD_nilp : AV.nilp.isD = true := rfl
@[go_sem] theorem isD_nils : AV.nils.isD = true := rfl
@[go_sem] theorem isD_nili : AV.nili.isD = true := rfl
@[go_sem] theorem isD_ifc {t : TypeId} {v : AV} : (AV.ifc t v).isD = true := rfl
@[go_sem] theorem isD_sl {τ w : Nat} {xs : List AV} : (AV.sl τ w xs).isD = true := rfl
@[go_sem] theorem isD_dptr {τ : Nat} {xs : List AV} : (AV.dptr τ xs).isD = true := rfl

/-! ### New roots -/
/-- Go on with what is known. -/
def goK (c : Prop) (d : Option Nat) (tm : List (Nat × AV)) (st : List Root) (v : AV) (K : Env → Prop) : Prop := c ∧ K (Env.put ⟨tm, st⟩ d v)
@[congr] theorem goK_congr {c c' : Prop} {tm tm' : List (Nat × AV)} {st st' : List Root} {v v' : AV} (h1 : c = c') (h2 : tm = tm') (h3 : st = st') (h4 : v = v') : goK c d tm st v K = goK c' d tm' st' v' K := by rw [h1, h2, h3, h4]
@[go_sem] theorem goK_eq {c : Prop} {v : AV} : goK c d tm st v K = (c ∧ K (Env.put ⟨tm, st⟩ d v)) := rfl

@[go_sem] theorem o_box {t : Nat} {x : Operand} : vopd P n d (.box t x) e K = goK (e.argc x ∧ (e.arg x).boxable = true) d e.tm (e.st ++ [.box t (e.arg x).cells]) (.ptr e.st.length 0 0 0) K := by
  simp only [vopd, vop, goK, and_assoc]
@[go_sem] theorem o_alloc {t : Nat} : vopd P n d (.alloc t) e K = goK (zOk P t = true) d e.tm (e.st ++ [.box t (zcells P t)]) (.ptr e.st.length 0 0 0) K := rfl
@[go_sem] theorem o_mm {t : Nat} : vopd P n d (.makeMap t none) e K = goK True d e.tm (e.st ++ [.mp []]) (.map e.st.length) K := by
  simp only [vopd, vop, goK, true_and]

def bsK (P : Program) (n : Nat) (ty : Ty) (len : Nat) (ks : List Nat) (xs : List AV) (c : Prop) (d : Option Nat) (e : Env) (K : Env → Prop) : Prop :=
  match ty with
  | .sl et => goK (zOk P et = true ∧ 0 < P.cellsOf et ∧ len * P.cellsOf et ≤ 16777216 ∧ ks = List.range len ∧ c ∧ (∀ x ∈ xs, (emb e.st n x).c ∧ (emb e.st n x).v.cells.length = P.cellsOf et)) d e.tm
      (gones e.st (xs.flatMap fun x => (emb e.st n x).rs) ++ [.row et (P.cellsOf et) (xs.map fun x => (emb e.st n x).v)]) (.osl e.st.length (P.cellsOf et) 0 len) K
  | _ => False
@[congr] theorem bsK_congr {ty ty' : Ty} {len len' : Nat} {ks ks' : List Nat} {xs xs' : List AV} {c c' : Prop} {e e' : Env} (h1 : ty = ty') (h2 : len = len') (h3 : ks = ks') (h4 : xs = xs') (h5 : c = c') (h6 : e = e') : bsK P n ty len ks xs c d e K = bsK P n ty' len' ks' xs' c' d e' K := by rw [h1, h2, h3, h4, h5, h6]
@[go_sem] theorem o_bs {t len : Nat} {ps : Array (Nat × Operand)} : vopd P n d (.buildSlice t len ps) e K = bsK P n (tyOf P t) len (ps.toList.map (·.1)) (ps.toList.map fun p => e.arg p.2) (∀ p ∈ ps.toList, e.argc p.2) d e K := by
  simp only [vopd, vop, bsK]
  generalize tyOf P t = ty
  cases ty <;> try dsimp only
  simp only [goK, and_assoc, List.flatMap_map, List.map_map, List.forall_mem_map]
  rfl
@[go_sem] theorem bsK_sl {et len : Nat} {ks : List Nat} {xs : List AV} {c : Prop} : bsK P n (.sl et) len ks xs c d e K = goK (zOk P et = true ∧ 0 < P.cellsOf et ∧ len * P.cellsOf et ≤ 16777216 ∧ ks = List.range len ∧ c ∧ (∀ x ∈ xs, (emb e.st n x).c ∧ (emb e.st n x).v.cells.length = P.cellsOf et)) d e.tm
      (gones e.st (xs.flatMap fun x => (emb e.st n x).rs) ++ [.row et (P.cellsOf et) (xs.map fun x => (emb e.st n x).v)]) (.osl e.st.length (P.cellsOf et) 0 len) K := rfl

def msK (P : Program) (ty : Ty) (l c : AV) (cc : Prop) (d : Option Nat) (e : Env) (K : Env → Prop) : Prop :=
  match ty, l, c with
  | .sl et, .int _ l', .int _ c' => goK (cc ∧ zOk P et = true ∧ (∀ y ∈ zcells P et, y.isD = true) ∧ (zel P et).cells = zcells P et ∧ 0 < P.cellsOf et ∧ 0 ≤ l' ∧ l' ≤ c' ∧ (P.bytesOf et : Int) * c' ≤ 140737488355328 ∧ c' ≤ 140737488355328) d e.tm
        (e.st ++ [.row et (P.cellsOf et) (List.replicate l'.toNat (zel P et))]) (.osl e.st.length (P.cellsOf et) 0 l'.toNat) K
  | _, _, _ => False
@[congr] theorem msK_congr {ty ty' : Ty} {l l' c c' : AV} {cc cc' : Prop} {e e' : Env} (h1 : ty = ty') (h2 : l = l') (h3 : c = c') (h4 : cc = cc') (h5 : e = e') : msK P ty l c cc d e K = msK P ty' l' c' cc' d e' K := by rw [h1, h2, h3, h4, h5]
@[go_sem] theorem o_ms {t : Nat} {l c : Operand} : vopd P n d (.makeSlice t l c) e K = msK P (tyOf P t) (e.arg l) (e.arg c) (e.argc l ∧ e.argc c) d e K := by
  simp only [vopd, vop, msK]
  generalize tyOf P t = ty
  generalize e.arg l = al
  generalize e.arg c = ac
  cases ty <;> try dsimp only
  cases al <;> try dsimp only
  cases ac <;> try dsimp only
  simp only [goK, and_assoc]
@[go_sem] theorem msK_int {et : Nat} {k k' : IntKind} {l' c' : Int} {cc : Prop} : msK P (.sl et) (.int k l') (.int k' c') cc d e K = goK (cc ∧ zOk P et = true ∧ (∀ y ∈ zcells P et, y.isD = true) ∧ (zel P et).cells = zcells P et ∧ 0 < P.cellsOf et ∧ 0 ≤ l' ∧ l' ≤ c' ∧ (P.bytesOf et : Int) * c' ≤ 140737488355328 ∧ c' ≤ 140737488355328) d e.tm
        (e.st ++ [.row et (P.cellsOf et) (List.replicate l'.toNat (zel P et))]) (.osl e.st.length (P.cellsOf et) 0 l'.toNat) K := rfl

/-! ### Stores -/
def stoR (P : Program) (n t : Nat) (r w i j : Nat) (x : AV) (c : Prop) (R : Option Root) (d : Option Nat) (e : Env) (K : Env → Prop) : Prop :=
  match R with
  | some (.box tt cs) => goK (c ∧ i = 0 ∧ (P.info? t).isSome = true ∧ x.boxable = true ∧ x.cells.length = P.cellsOf t ∧ j + x.cells.length ≤ cs.length) d e.tm (e.st.set r (.box tt (cs.take j ++ x.cells ++ cs.drop (j + x.cells.length)))) .undef K
  | some (.row tt w' xs) => goK (c ∧ w = w' ∧ (P.info? t).isSome = true ∧ (emb e.st n x).c ∧ (gones e.st (emb e.st n x).rs)[r]? = some (.row tt w' xs) ∧ (emb e.st n x).v.cells.length = P.cellsOf t ∧ i < xs.length ∧ j + (emb e.st n x).v.cells.length ≤ w' ∧
      (setEl (nth xs i) j (emb e.st n x).v.cells).cells = (nth xs i).cells.take j ++ (emb e.st n x).v.cells ++ (nth xs i).cells.drop (j + (emb e.st n x).v.cells.length)) d e.tm ((gones e.st (emb e.st n x).rs).set r (.row tt w' (xs.set i (setEl (nth xs i) j (emb e.st n x).v.cells)))) .undef K
  | _ => False
def stoP (P : Program) (n t : Nat) (p x : AV) (c : Prop) (d : Option Nat) (e : Env) (K : Env → Prop) : Prop :=
  match p with
  | .ptr r w i j => stoR P n t r w i j x c (e.st[r]?) d e K
  | _ => False
@[congr] theorem stoR_congr {t r w i j r' w' i' j' : Nat} {x x' : AV} {c c' : Prop} {R R' : Option Root} {e e' : Env} (h1 : r = r') (h2 : w = w') (h3 : i = i') (h4 : j = j') (h5 : x = x') (h6 : c = c') (h7 : R = R') (h8 : e = e') : stoR P n t r w i j x c R d e K = stoR P n t r' w' i' j' x' c' R' d e' K := by rw [h1, h2, h3, h4, h5, h6, h7, h8]
@[congr] theorem stoP_congr {t : Nat} {p p' x x' : AV} {c c' : Prop} {e e' : Env} (h1 : p = p') (h2 : x = x') (h3 : c = c') (h4 : e = e') : stoP P n t p x c d e K = stoP P n t p' x' c' d e' K := by rw [h1, h2, h3, h4]
@[go_sem] theorem o_store {t : Nat} {p x : Operand} : vopd P n d (.store t p x) e K = stoP P n t (e.arg p) (e.arg x) (e.argc p ∧ e.argc x) d e K := by
  simp only [vopd, vop, stoP]
  generalize e.arg p = q
  cases q <;> try dsimp only
  rename_i r w i j
  simp only [stoR]
  generalize e.st[r]? = R
  cases R with
  | none => rfl
  | some R => cases R <;> (try dsimp only) <;> simp only [goK, and_assoc]
@[go_sem] theorem stoP_ptr {t r w i j : Nat} {x : AV} {c : Prop} : stoP P n t (.ptr r w i j) x c d e K = stoR P n t r w i j x c (e.st[r]?) d e K := rfl
@[go_sem] theorem stoR_box {t r w i j tt : Nat} {cs : List AV} {x : AV} {c : Prop} : stoR P n t r w i j x c (some (.box tt cs)) d e K = goK (c ∧ i = 0 ∧ (P.info? t).isSome = true ∧ x.boxable = true ∧ x.cells.length = P.cellsOf t ∧ j + x.cells.length ≤ cs.length) d e.tm (e.st.set r (.box tt (cs.take j ++ x.cells ++ cs.drop (j + x.cells.length)))) .undef K := rfl
@[go_sem] theorem stoR_row {t r w i j tt w' : Nat} {xs : List AV} {x : AV} {c : Prop} : stoR P n t r w i j x c (some (.row tt w' xs)) d e K = goK (c ∧ w = w' ∧ (P.info? t).isSome = true ∧ (emb e.st n x).c ∧ (gones e.st (emb e.st n x).rs)[r]? = some (.row tt w' xs) ∧ (emb e.st n x).v.cells.length = P.cellsOf t ∧ i < xs.length ∧ j + (emb e.st n x).v.cells.length ≤ w' ∧
      (setEl (nth xs i) j (emb e.st n x).v.cells).cells = (nth xs i).cells.take j ++ (emb e.st n x).v.cells ++ (nth xs i).cells.drop (j + (emb e.st n x).v.cells.length)) d e.tm ((gones e.st (emb e.st n x).rs).set r (.row tt w' (xs.set i (setEl (nth xs i) j (emb e.st n x).v.cells)))) .undef K := rfl
theorem setEl_one {y : AV} {j : Nat} {x : AV} (hy : y.cells = [y]) : setEl y j [x] = x := by
  cases y <;> first | rfl | skip
  simp only [AV.cells] at hy
  have := congrArg SizeOf.sizeOf hy
  simp at this
  omega

/-! ### Rows that go into a row -/
@[go_sem] theorem emb_int {m : Nat} {k : IntKind} {a : Int} : emb st m (.int k a) = ⟨True, .int k a, []⟩ := by simp [emb, emb0, AV.isD]
@[go_sem] theorem emb_bool {m : Nat} {b : Bool} : emb st m (.bool b) = ⟨True, .bool b, []⟩ := by simp [emb, emb0, AV.isD]
@[go_sem] theorem emb_str {m : Nat} {s : ByteArray} : emb st m (.str s) = ⟨True, .str s, []⟩ := by simp [emb, emb0, AV.isD]
@[go_sem] theorem emb_nilp {m : Nat} : emb st m .nilp = ⟨True, .nilp, []⟩ := by simp [emb, emb0, AV.isD]
@[go_sem] theorem emb_nils {m : Nat} : emb st m .nils = ⟨True, .nils, []⟩ := by simp [emb, emb0, AV.isD]
@[go_sem] theorem emb_nili {m : Nat} : emb st m .nili = ⟨True, .nili, []⟩ := by simp [emb, emb0, AV.isD]
@[go_sem] theorem emb_sl {m τ w : Nat} {xs : List AV} : emb st m (.sl τ w xs) = ⟨True, .sl τ w xs, []⟩ := by simp [emb, emb0, AV.isD]
@[go_sem] theorem emb_dptr {m τ : Nat} {xs : List AV} : emb st m (.dptr τ xs) = ⟨True, .dptr τ xs, []⟩ := by simp [emb, emb0, AV.isD]
@[go_sem] theorem emb0_int {m : Nat} {k : IntKind} {a : Int} : emb0 st m (.int k a) = ⟨True, .int k a, []⟩ := by simp [emb0, AV.isD]
@[go_sem] theorem emb0_bool {m : Nat} {b : Bool} : emb0 st m (.bool b) = ⟨True, .bool b, []⟩ := by simp [emb0, AV.isD]
@[go_sem] theorem emb0_str {m : Nat} {s : ByteArray} : emb0 st m (.str s) = ⟨True, .str s, []⟩ := by simp [emb0, AV.isD]
@[go_sem] theorem emb0_nilp {m : Nat} : emb0 st m .nilp = ⟨True, .nilp, []⟩ := by simp [emb0, AV.isD]
@[go_sem] theorem emb0_nils {m : Nat} : emb0 st m .nils = ⟨True, .nils, []⟩ := by simp [emb0, AV.isD]
@[go_sem] theorem emb0_nili {m : Nat} : emb0 st m .nili = ⟨True, .nili, []⟩ := by simp [emb0, AV.isD]
@[go_sem] theorem emb0_sl {m τ w : Nat} {xs : List AV} : emb0 st m (.sl τ w xs) = ⟨True, .sl τ w xs, []⟩ := by simp [emb0, AV.isD]
@[go_sem] theorem emb0_dptr {m τ : Nat} {xs : List AV} : emb0 st m (.dptr τ xs) = ⟨True, .dptr τ xs, []⟩ := by simp [emb0, AV.isD]
def embR (m r w off len : Nat) (R : Option Root) : EmbR :=
  match R with
  | some (.row t w' xs) => ⟨w = w' ∧ off + len ≤ xs.length, .sl m w ((xs.drop off).take len), [r]⟩
  | _ => ⟨False, .undef, []⟩
@[go_sem] theorem emb0_osl {m r w off len : Nat} : emb0 st m (.osl r w off len) = embR m r w off len (st[r]?) := by
  simp only [emb0, embR]
  cases st[r]? with
  | none => rfl
  | some R => cases R <;> rfl
@[go_sem] theorem emb_osl {m r w off len : Nat} : emb st m (.osl r w off len) = embR m r w off len (st[r]?) := emb0_osl
@[go_sem] theorem embR_row {m r w off len t w' : Nat} {xs : List AV} : embR m r w off len (some (.row t w' xs)) = ⟨w = w' ∧ off + len ≤ xs.length, .sl m w ((xs.drop off).take len), [r]⟩ := rfl
@[go_sem] theorem emb_agg {m : Nat} {cs : List AV} : emb st m (.agg cs) = ⟨∀ c ∈ cs, (emb0 st m c).c, .agg (cs.map fun c => (emb0 st m c).v), cs.flatMap fun c => (emb0 st m c).rs⟩ := rfl
@[go_sem] theorem gones_nil : gones st [] = st := rfl
@[go_sem] theorem gones_cons {r : Nat} {rs : List Nat} : gones st (r :: rs) = gones (st.set r .gone) rs := rfl

/-! ### append, copy, maps -/
def appR (P : Program) (et : Nat) (c : Prop) (r w off len : Nat) (ys : List AV) (R : Option Root) (d : Option Nat) (e : Env) (K : Env → Prop) : Prop :=
  match R with
  | some (.row tt w' xs) => goK (c ∧ w = w' ∧ P.cellsOf et = w' ∧ tt = et ∧ off = 0 ∧ len = xs.length ∧ (xs.length + ys.length) * P.bytesOf et ≤ 140737488355328) d e.tm (e.st.set r .gone ++ [.row et w' (xs ++ ys)]) (.osl e.st.length w' 0 (xs.length + ys.length)) K
  | _ => False
def appK (P : Program) (t' t : Nat) (ty : Ty) (s x : AV) (c : Prop) (d : Option Nat) (e : Env) (K : Env → Prop) : Prop :=
  match ty with
  | .sl et => match s with
    | .nils => goK (c ∧ t' = t ∧ zOk P et = true ∧ 0 < P.bytesOf et ∧ 0 < P.cellsOf et ∧ (src e.st x).1 ∧ srcw x (P.cellsOf et) ∧ (src e.st x).2.length * P.bytesOf et ≤ 140737488355328) d e.tm (e.st ++ [.row et (P.cellsOf et) (src e.st x).2]) (.osl e.st.length (P.cellsOf et) 0 (src e.st x).2.length) K
    | .osl r w off len => appR P et (c ∧ t' = t ∧ zOk P et = true ∧ 0 < P.bytesOf et ∧ 0 < P.cellsOf et ∧ (src e.st x).1 ∧ srcw x (P.cellsOf et)) r w off len (src e.st x).2 (e.st[r]?) d e K
    | _ => False
  | _ => False
@[congr] theorem appR_congr {et : Nat} {c c' : Prop} {r w off len r' w' off' len' : Nat} {ys ys' : List AV} {R R' : Option Root} {e e' : Env} (h1 : c = c') (h2 : r = r') (h3 : w = w') (h4 : off = off') (h5 : len = len') (h6 : ys = ys') (h7 : R = R') (h8 : e = e') : appR P et c r w off len ys R d e K = appR P et c' r' w' off' len' ys' R' d e' K := by rw [h1, h2, h3, h4, h5, h6, h7, h8]
@[congr] theorem appK_congr {t' t : Nat} {ty ty' : Ty} {s s' x x' : AV} {c c' : Prop} {e e' : Env} (h1 : ty = ty') (h2 : s = s') (h3 : x = x') (h4 : c = c') (h5 : e = e') : appK P t' t ty s x c d e K = appK P t' t ty' s' x' c' d e' K := by rw [h1, h2, h3, h4, h5]
@[go_sem] theorem o_app {s x : Operand} {t t' : Nat} : vopd P n d (.call ⟨.builtin .append, #[s, x], #[t, t']⟩) e K = appK P t' t (tyOf P t) (e.arg s) (e.arg x) (e.argc s ∧ e.argc x) d e K := by
  simp only [vopd, vop, appK]
  generalize tyOf P t = ty
  cases ty <;> try dsimp only
  generalize e.arg s = as
  cases as <;> (try dsimp only) <;> try simp only [goK, and_false, and_assoc]
  rename_i et r w off len
  simp only [appR]
  generalize e.st[r]? = R
  cases R with
  | none => simp only [and_false]
  | some R => cases R <;> (try dsimp only) <;> simp only [goK, and_false, and_assoc]
@[go_sem] theorem appK_nils {t' t et : Nat} {x : AV} {c : Prop} : appK P t' t (.sl et) .nils x c d e K = goK (c ∧ t' = t ∧ zOk P et = true ∧ 0 < P.bytesOf et ∧ 0 < P.cellsOf et ∧ (src e.st x).1 ∧ srcw x (P.cellsOf et) ∧ (src e.st x).2.length * P.bytesOf et ≤ 140737488355328) d e.tm (e.st ++ [.row et (P.cellsOf et) (src e.st x).2]) (.osl e.st.length (P.cellsOf et) 0 (src e.st x).2.length) K := rfl
@[go_sem] theorem appK_osl {t' t et r w off len : Nat} {x : AV} {c : Prop} : appK P t' t (.sl et) (.osl r w off len) x c d e K = appR P et (c ∧ t' = t ∧ zOk P et = true ∧ 0 < P.bytesOf et ∧ 0 < P.cellsOf et ∧ (src e.st x).1 ∧ srcw x (P.cellsOf et)) r w off len (src e.st x).2 (e.st[r]?) d e K := rfl
@[go_sem] theorem appR_row {et r w off len tt w' : Nat} {xs ys : List AV} {c : Prop} : appR P et c r w off len ys (some (.row tt w' xs)) d e K = goK (c ∧ w = w' ∧ P.cellsOf et = w' ∧ tt = et ∧ off = 0 ∧ len = xs.length ∧ (xs.length + ys.length) * P.bytesOf et ≤ 140737488355328) d e.tm (e.st.set r .gone ++ [.row et w' (xs ++ ys)]) (.osl e.st.length w' 0 (xs.length + ys.length)) K := rfl
@[go_sem] theorem src_sl {τ w : Nat} {ys : List AV} : src st (.sl τ w ys) = (True, ys) := rfl
@[go_sem] theorem src_nils : src st .nils = (True, []) := rfl
def srcR (w off len : Nat) (R : Option Root) : Prop × List AV :=
  match R with
  | some (.row _ w' xs) => (w = w' ∧ off + len ≤ xs.length, (xs.drop off).take len)
  | _ => (False, [])
@[go_sem] theorem src_osl {r w off len : Nat} : src st (.osl r w off len) = srcR w off len (st[r]?) := by
  simp only [src, srcR]
  cases st[r]? with
  | none => rfl
  | some R => cases R <;> rfl
@[go_sem] theorem srcR_row {w off len t w' : Nat} {xs : List AV} : srcR w off len (some (.row t w' xs)) = (w = w' ∧ off + len ≤ xs.length, (xs.drop off).take len) := rfl
@[go_sem] theorem srcw_sl {τ w k : Nat} {ys : List AV} : srcw (.sl τ w ys) k = (w = k) := rfl
@[go_sem] theorem srcw_osl {r w off len k : Nat} : srcw (.osl r w off len) k = (w = k) := rfl
@[go_sem] theorem srcw_nils {k : Nat} : srcw .nils k = True := rfl

def cpR (P : Program) (et : Nat) (c : Prop) (x : AV) (r w off len : Nat) (ys : Prop × List AV) (R : Option Root) (d : Option Nat) (e : Env) (K : Env → Prop) : Prop :=
  match R with
  | some (.row tt w' xs) => goK (c ∧ P.cellsOf et = 1 ∧ (P.info? et).isSome = true ∧ w = 1 ∧ w' = 1 ∧ off + len ≤ xs.length ∧ ys.1 ∧ srcw x 1) d e.tm (e.st.set r (.row tt 1 (xs.take off ++ ys.2.take (min ys.2.length len) ++ xs.drop (off + min ys.2.length len)))) (.int .i64 (min ys.2.length len : Nat)) K
  | _ => False
def cpK (P : Program) (ty : Ty) (s x : AV) (c : Prop) (d : Option Nat) (e : Env) (K : Env → Prop) : Prop :=
  match ty, s with
  | .sl et, .osl r w off len => cpR P et c x r w off len (src e.st x) (e.st[r]?) d e K
  | _, _ => False
@[congr] theorem cpR_congr {et : Nat} {c c' : Prop} {x x' : AV} {r w off len r' w' off' len' : Nat} {ys ys' : Prop × List AV} {R R' : Option Root} {e e' : Env} (h1 : c = c') (h0 : x = x') (h2 : r = r') (h3 : w = w') (h4 : off = off') (h5 : len = len') (h6 : ys = ys') (h7 : R = R') (h8 : e = e') : cpR P et c x r w off len ys R d e K = cpR P et c' x' r' w' off' len' ys' R' d e' K := by rw [h1, h0, h2, h3, h4, h5, h6, h7, h8]
@[congr] theorem cpK_congr {ty ty' : Ty} {s s' x x' : AV} {c c' : Prop} {e e' : Env} (h1 : ty = ty') (h2 : s = s') (h3 : x = x') (h4 : c = c') (h5 : e = e') : cpK P ty s x c d e K = cpK P ty' s' x' c' d e' K := by rw [h1, h2, h3, h4, h5]
@[go_sem] theorem o_copy {s x : Operand} {t t' : Nat} : vopd P n d (.call ⟨.builtin .copy, #[s, x], #[t, t']⟩) e K = cpK P (tyOf P t) (e.arg s) (e.arg x) (e.argc s ∧ e.argc x) d e K := by
  simp only [vopd, vop, cpK]
  generalize tyOf P t = ty
  generalize e.arg s = as
  cases ty <;> try dsimp only
  cases as <;> try dsimp only
  rename_i et r w off len
  simp only [cpR]
  generalize e.st[r]? = R
  cases R with
  | none => rfl
  | some R => cases R <;> (try dsimp only) <;> simp only [goK, and_assoc]
@[go_sem] theorem cpK_osl {et r w off len : Nat} {x : AV} {c : Prop} : cpK P (.sl et) (.osl r w off len) x c d e K = cpR P et c x r w off len (src e.st x) (e.st[r]?) d e K := rfl
@[go_sem] theorem cpR_row {et r w off len tt w' : Nat} {x : AV} {xs : List AV} {ys : Prop × List AV} {c : Prop} : cpR P et c x r w off len ys (some (.row tt w' xs)) d e K = goK (c ∧ P.cellsOf et = 1 ∧ (P.info? et).isSome = true ∧ w = 1 ∧ w' = 1 ∧ off + len ≤ xs.length ∧ ys.1 ∧ srcw x 1) d e.tm (e.st.set r (.row tt 1 (xs.take off ++ ys.2.take (min ys.2.length len) ++ xs.drop (off + min ys.2.length len)))) (.int .i64 (min ys.2.length len : Nat)) K := rfl

def muS (P : Program) (kt : Nat) (k v : AV) (c : Prop) (r : Nat) (s : Option (List (AV × AV))) (d : Option Nat) (e : Env) (K : Env → Prop) : Prop :=
  match s with
  | some kv' => goK (c ∧ keyOk P kt k = true ∧ v.isD = true) d e.tm (e.st.set r (.mp kv')) .undef K
  | none => False
def muR (P : Program) (kt : Nat) (k v : AV) (c : Prop) (r : Nat) (R : Option Root) (d : Option Nat) (e : Env) (K : Env → Prop) : Prop :=
  match R with
  | some (.mp kv) => muS P kt k v c r (kvSet kv k v) d e K
  | _ => False
def muK (P : Program) (ty : Ty) (mp k v : AV) (c : Prop) (d : Option Nat) (e : Env) (K : Env → Prop) : Prop :=
  match ty, mp with
  | .mp kt _, .map r => muR P kt k v c r (e.st[r]?) d e K
  | _, _ => False
@[congr] theorem muS_congr {kt : Nat} {k k' v v' : AV} {c c' : Prop} {r r' : Nat} {s s' : Option (List (AV × AV))} {e e' : Env} (h1 : k = k') (h2 : v = v') (h3 : c = c') (h4 : r = r') (h5 : s = s') (h6 : e = e') : muS P kt k v c r s d e K = muS P kt k' v' c' r' s' d e' K := by rw [h1, h2, h3, h4, h5, h6]
@[congr] theorem muR_congr {kt : Nat} {k k' v v' : AV} {c c' : Prop} {r r' : Nat} {s s' : Option Root} {e e' : Env} (h1 : k = k') (h2 : v = v') (h3 : c = c') (h4 : r = r') (h5 : s = s') (h6 : e = e') : muR P kt k v c r s d e K = muR P kt k' v' c' r' s' d e' K := by rw [h1, h2, h3, h4, h5, h6]
@[congr] theorem muK_congr {ty ty' : Ty} {m m' k k' v v' : AV} {c c' : Prop} {e e' : Env} (h0 : ty = ty') (h4 : m = m') (h1 : k = k') (h2 : v = v') (h3 : c = c') (h6 : e = e') : muK P ty m k v c d e K = muK P ty' m' k' v' c' d e' K := by rw [h0, h1, h2, h3, h4, h6]
@[go_sem] theorem o_mu {t : Nat} {m k v : Operand} : vopd P n d (.mapUpdate t m k v) e K = muK P (tyOf P t) (e.arg m) (e.arg k) (e.arg v) (e.argc m ∧ e.argc k ∧ e.argc v) d e K := by
  simp only [vopd, vop, muK]
  generalize tyOf P t = ty
  generalize e.arg m = am
  cases ty <;> try dsimp only
  cases am <;> try dsimp only
  rename_i kt et r
  simp only [muR]
  generalize e.st[r]? = R
  cases R with
  | none => rfl
  | some R =>
    cases R <;> try dsimp only
    rename_i kv
    simp only [muS]
    generalize kvSet kv (e.arg k) (e.arg v) = kv'
    cases kv' <;> (try dsimp only) <;> simp only [goK, and_assoc]
@[go_sem] theorem muK_map {kt et r : Nat} {k v : AV} {c : Prop} : muK P (.mp kt et) (.map r) k v c d e K = muR P kt k v c r (e.st[r]?) d e K := rfl
@[go_sem] theorem muR_mp {kt r : Nat} {k v : AV} {c : Prop} {kv : List (AV × AV)} : muR P kt k v c r (some (.mp kv)) d e K = muS P kt k v c r (kvSet kv k v) d e K := rfl
@[go_sem] theorem muS_some {kt r : Nat} {k v : AV} {c : Prop} {kv' : List (AV × AV)} : muS P kt k v c r (some kv') d e K = goK (c ∧ keyOk P kt k = true ∧ v.isD = true) d e.tm (e.st.set r (.mp kv')) .undef K := rfl

/-! ### Calls that are not in the table -/
@[congr] theorem VCall_congr {f f' : AV} {args args' : List AV} {e e' : Env} {K : Env → AV → Prop} (h1 : f = f') (h2 : args = args') (h3 : e = e') : VCall P n f args e K = VCall P n f' args' e' K := by rw [h1, h2, h3]
/-- What is asked ahead of a call. -/
def clK (P : Program) (n : Nat) (c : Prop) (f : AV) (args : List AV) (d : Option Nat) (e : Env) (K : Env → Prop) : Prop := c ∧ VCall P n f args e fun e' v => K (e'.put d v)
/-- What comes behind a call, not looked into before the call has come back. -/
def holdK (K : Env → Prop) (d : Option Nat) (e : Env) (v : AV) : Prop := K (e.put d v)
@[congr] theorem holdK_congr {e e' : Env} {v v' : AV} (h1 : e = e') (h2 : v = v') : holdK K d e v = holdK K d e' v' := by rw [h1, h2]
@[go_sem] theorem holdK_eq {tm : List (Nat × AV)} {st : List Root} {v : AV} : holdK K d ⟨tm, st⟩ v = K (Env.put ⟨tm, st⟩ d v) := rfl
@[go_sem] theorem o_call {f : Operand} {args : Array Operand} {t : Array Nat} : vopd P n d (.call ⟨.value f, args, t⟩) e K = ((e.argc f ∧ ∀ x ∈ args.toList, e.argc x) ∧ VCall P n (e.arg f) (args.toList.map e.arg) e (holdK K d)) := by
  simp only [vopd, vop, and_assoc]
  rfl

@[go_sem] theorem cv_fn {pos : Nat → Option Nat} {f : FuncId} {caps : List AV} : cv st pos (.fn f caps) = (∀ c ∈ caps, (cv0 st pos c).1, .fn f (caps.map fun c => (cv0 st pos c).2)) := rfl
@[go_sem] theorem cv_agg {pos : Nat → Option Nat} {cs : List AV} : cv st pos (.agg cs) = (∀ c ∈ cs, (cv1 st pos c).1, .agg (cs.map fun c => (cv1 st pos c).2)) := rfl
@[go_sem] theorem cv_osl' {pos : Nat → Option Nat} {r w off len : Nat} : cv st pos (.osl r w off len) = cv0 st pos (.osl r w off len) := rfl
@[go_sem] theorem cv_ptr' {pos : Nat → Option Nat} {r w i j : Nat} : cv st pos (.ptr r w i j) = cv0 st pos (.ptr r w i j) := rfl
@[go_sem] theorem cv_map' {pos : Nat → Option Nat} {r : Nat} : cv st pos (.map r) = cv0 st pos (.map r) := rfl
@[go_sem] theorem cv1_fn {pos : Nat → Option Nat} {f : FuncId} {caps : List AV} : cv1 st pos (.fn f caps) = (∀ c ∈ caps, (cv0 st pos c).1, .fn f (caps.map fun c => (cv0 st pos c).2)) := rfl
end
section
variable {st : List Root} {pos : Nat → Option Nat}
@[go_sem] theorem cv1_int {k : IntKind} {m : Int} : cv1 st pos (.int k m) = (True, .int k m) := rfl
@[go_sem] theorem cv1_bool {b : Bool} : cv1 st pos (.bool b) = (True, .bool b) := rfl
@[go_sem] theorem cv1_str {s : ByteArray} : cv1 st pos (.str s) = (True, .str s) := rfl
@[go_sem] theorem cv1_nilp : cv1 st pos .nilp = (True, .nilp) := rfl
@[go_sem] theorem cv1_nils : cv1 st pos .nils = (True, .nils) := rfl
@[go_sem] theorem cv1_nili : cv1 st pos .nili = (True, .nili) := rfl
@[go_sem] theorem cv1_sl {τ w : Nat} {xs : List AV} : cv1 st pos (.sl τ w xs) = (True, .sl τ w xs) := rfl
@[go_sem] theorem cv1_dptr {τ : Nat} {xs : List AV} : cv1 st pos (.dptr τ xs) = (True, .dptr τ xs) := rfl
@[go_sem] theorem cv1_osl {r w off len : Nat} : cv1 st pos (.osl r w off len) = cv0 st pos (.osl r w off len) := rfl
@[go_sem] theorem cv1_ptr {r w i j : Nat} : cv1 st pos (.ptr r w i j) = cv0 st pos (.ptr r w i j) := rfl
@[go_sem] theorem cv1_map {r : Nat} : cv1 st pos (.map r) = cv0 st pos (.map r) := rfl
@[go_sem] theorem cv0_int {k : IntKind} {m : Int} : cv0 st pos (.int k m) = (True, .int k m) := rfl
@[go_sem] theorem cv0_bool {b : Bool} : cv0 st pos (.bool b) = (True, .bool b) := rfl
@[go_sem] theorem cv0_str {s : ByteArray} : cv0 st pos (.str s) = (True, .str s) := rfl
@[go_sem] theorem cv0_nilp : cv0 st pos .nilp = (True, .nilp) := rfl
@[go_sem] theorem cv0_nils : cv0 st pos .nils = (True, .nils) := rfl
@[go_sem] theorem cv0_nili : cv0 st pos .nili = (True, .nili) := rfl
@[go_sem] theorem cv0_sl {τ w : Nat} {xs : List AV} : cv0 st pos (.sl τ w xs) = (True, .sl τ w xs) := rfl
@[go_sem] theorem cv0_dptr {τ : Nat} {xs : List AV} : cv0 st pos (.dptr τ xs) = (True, .dptr τ xs) := rfl
@[go_sem] theorem cvD_int {k : IntKind} {m : Int} : cvD st pos (.int k m) = (True, .int k m) := rfl
@[go_sem] theorem cvD_bool {b : Bool} : cvD st pos (.bool b) = (True, .bool b) := rfl
@[go_sem] theorem cvD_str {s : ByteArray} : cvD st pos (.str s) = (True, .str s) := rfl
@[go_sem] theorem cvD_nilp : cvD st pos .nilp = (True, .nilp) := rfl
@[go_sem] theorem cvD_nils : cvD st pos .nils = (True, .nils) := rfl
@[go_sem] theorem cvD_nili : cvD st pos .nili = (True, .nili) := rfl
@[go_sem] theorem cvD_sl {τ w : Nat} {xs : List AV} : cvD st pos (.sl τ w xs) = (True, .sl τ w xs) := rfl
@[go_sem] theorem cvD_dptr {τ : Nat} {xs : List AV} : cvD st pos (.dptr τ xs) = (True, .dptr τ xs) := rfl
@[go_sem] theorem cvD_ptr {r w i j : Nat} : cvD st pos (.ptr r w i j) = (True, .undef) := rfl
@[go_sem] theorem cvD_map {r : Nat} : cvD st pos (.map r) = (True, .undef) := rfl
@[go_sem] theorem cvD_fn {f : FuncId} {caps : List AV} : cvD st pos (.fn f caps) = (True, .undef) := rfl
def cvDo (p : Option Nat) (w off len : Nat) (R : Option Root) : Prop × AV :=
  match p with
  | some _ => (True, .undef)
  | none => match R with
    | some (.row _ w' xs) => (w = w' ∧ off + len ≤ xs.length, .sl 0 w ((xs.drop off).take len))
    | _ => (True, .undef)
@[go_sem] theorem cvD_osl {r w off len : Nat} : cvD st pos (.osl r w off len) = cvDo (pos r) w off len (st[r]?) := by
  simp only [cvD, cvDo]
  cases pos r with
  | some _ => rfl
  | none => cases st[r]? with
    | none => rfl
    | some R => cases R <;> rfl
@[go_sem] theorem cvDo_some {i w off len : Nat} {R : Option Root} : cvDo (some i) w off len R = (True, .undef) := rfl
@[go_sem] theorem cvDo_row {w off len t w' : Nat} {xs : List AV} : cvDo none w off len (some (.row t w' xs)) = (w = w' ∧ off + len ≤ xs.length, .sl 0 w ((xs.drop off).take len)) := rfl
def cv0o (p : Option Nat) (w off len : Nat) (R : Option Root) : Prop × AV :=
  match p with
  | some k => (True, .osl k w off len)
  | none => cvDo none w off len R
@[go_sem] theorem cv0_osl {r w off len : Nat} : cv0 st pos (.osl r w off len) = cv0o (pos r) w off len (st[r]?) := by
  simp only [cv0, cv0o]
  cases h : pos r with
  | some _ => rfl
  | none =>
    simp only [cvD, h, cvDo]
    cases st[r]? with
    | none => rfl
    | some R => cases R <;> rfl
@[go_sem] theorem cv0o_some {i w off len : Nat} {R : Option Root} : cv0o (some i) w off len R = (True, .osl i w off len) := rfl
@[go_sem] theorem cv0o_row {w off len t w' : Nat} {xs : List AV} : cv0o none w off len (some (.row t w' xs)) = (w = w' ∧ off + len ≤ xs.length, .sl 0 w ((xs.drop off).take len)) := rfl
def cv0p (st : List Root) (pos : Nat → Option Nat) (p : Option Nat) (w i j : Nat) (R : Option Root) : Prop × AV :=
  match p with
  | some k => (True, .ptr k w i j)
  | none => match R with
    | some (.box _ cs) => (i = 0 ∧ ∀ c ∈ cs.drop j, (cvD st pos c).1, .dptr 0 ((cs.drop j).map fun c => (cvD st pos c).2))
    | some (.row _ w' xs) => (w = w' ∧ i < xs.length, .dptr 0 ((nth xs i).cells.drop j))
    | _ => (True, .undef)
@[go_sem] theorem cv0_ptr {r w i j : Nat} : cv0 st pos (.ptr r w i j) = cv0p st pos (pos r) w i j (st[r]?) := by
  simp only [cv0, cv0p]
  cases h : pos r with
  | some _ => rfl
  | none =>
    cases st[r]? with
    | none => rfl
    | some R => cases R <;> rfl
@[go_sem] theorem cv0p_some {q w i j : Nat} {R : Option Root} : cv0p st pos (some q) w i j R = (True, .ptr q w i j) := rfl
@[go_sem] theorem cv0p_box {w i j t : Nat} {cs : List AV} : cv0p st pos none w i j (some (.box t cs)) = (i = 0 ∧ ∀ c ∈ cs.drop j, (cvD st pos c).1, .dptr 0 ((cs.drop j).map fun c => (cvD st pos c).2)) := rfl
@[go_sem] theorem cv0p_row {w i j t w' : Nat} {xs : List AV} : cv0p st pos none w i j (some (.row t w' xs)) = (w = w' ∧ i < xs.length, .dptr 0 ((nth xs i).cells.drop j)) := rfl
@[go_sem] theorem posOf_nil {q : Nat} : posOf [] q = none := rfl
@[go_sem] theorem posOf_cons {x q : Nat} {m : List Nat} : posOf (x :: m) q = if x = q then some 0 else (posOf m q).map (· + 1) := rfl
end

/-! ### Ends -/
section
variable {P : Program} {st : List Root} {n : Nat} {e : Env}
/-- What is owed, step by step: what is given, then how it is handed over. -/
def owP (n : Nat) (st : List Root) (o : OpR) (r : AV) : Prop := o.c ∧ (embT st n o.v).c ∧ Nz false (embT st n o.v).v ∧ (embT st n o.v).v = r
@[go_sem] theorem retP_ret {rs : List RV} {r : AV} : retP P n rs r .ret e = owP n e.st (resAV P e rs) r := rfl
@[go_sem] theorem retP_normal {rs : List RV} {r : AV} : retP P n rs r .normal e = owP n e.st (resAV P e rs) r := rfl
/-- A value, embedded, is what is owed. -/
def owE (c : Prop) (o : EmbR) (r : AV) : Prop := c ∧ o.c ∧ Nz false o.v ∧ o.v = r
@[go_sem] theorem owP_eq {c : Prop} {v r : AV} : owP n st ⟨c, v⟩ r = owE c (embT st n v) r := rfl
@[go_sem] theorem owE_eq {c c' : Prop} {v r : AV} {rs : List Nat} : owE c ⟨c', v, rs⟩ r = (c ∧ c' ∧ Nz false v ∧ v = r) := rfl
@[go_sem] theorem retM_ret {k : Nat} {rs : List RV} {ρ : List Nat} {rout : List Root} {r : AV} : retM P k rs ρ rout r .ret e = ((resAV P e rs).c ∧ ρ.Nodup ∧ (∀ p < k, ρ[p]? = some p) ∧ (∀ r ∈ ρ, r < e.st.length) ∧ rout = rinOf e.st ρ ∧ r = (resAV P e rs).v.rnp (posOf ρ) ∧ (∀ R ∈ rout, Rz R) ∧ Nz true r) := rfl
@[go_sem] theorem retM_normal {k : Nat} {rs : List RV} {ρ : List Nat} {rout : List Root} {r : AV} : retM P k rs ρ rout r .normal e = ((resAV P e rs).c ∧ ρ.Nodup ∧ (∀ p < k, ρ[p]? = some p) ∧ (∀ r ∈ ρ, r < e.st.length) ∧ rout = rinOf e.st ρ ∧ r = (resAV P e rs).v.rnp (posOf ρ) ∧ (∀ R ∈ rout, Rz R) ∧ Nz true r) := rfl
@[go_sem] theorem resAV_one {r : RV} : resAV P e [r] = rvV P e r := rfl
@[go_sem] theorem resAV_none : resAV P e [] = ⟨∀ r ∈ ([] : List RV), (rvV P e r).c, .tup []⟩ := rfl
@[go_sem] theorem resAV_two {t u : RV} : resAV P e [t, u] = ⟨∀ r ∈ [t, u], (rvV P e r).c, .tup [(rvV P e t).v, (rvV P e u).v]⟩ := rfl
@[go_sem] theorem resAV_three {t u v : RV} : resAV P e [t, u, v] = ⟨∀ r ∈ [t, u, v], (rvV P e r).c, .tup [(rvV P e t).v, (rvV P e u).v, (rvV P e v).v]⟩ := rfl
@[go_sem] theorem rvV_t {t : Nat} : rvV P e (.t t) = ⟨True, tv e.tm t⟩ := rfl
@[go_sem] theorem rvV_c {a t : Nat} : rvV P e (.c a t) = ⟨(behind e.st (tv e.tm a)).1 ∧ (ldv P t (behind e.st (tv e.tm a)).2).c, (ldv P t (behind e.st (tv e.tm a)).2).v⟩ := rfl
@[go_sem] theorem embT_tup {m : Nat} {cs : List AV} : embT st m (.tup cs) = ⟨∀ c ∈ cs, (emb st m c).c, .tup (cs.map fun c => (emb st m c).v), cs.flatMap fun c => (emb st m c).rs⟩ := rfl
@[go_sem] theorem embT_int {m : Nat} {k : IntKind} {a : Int} : embT st m (.int k a) = ⟨True, .int k a, []⟩ := emb_int (st := st) (m := m)
@[go_sem] theorem embT_bool {m : Nat} {b : Bool} : embT st m (.bool b) = ⟨True, .bool b, []⟩ := emb_bool (st := st) (m := m)
@[go_sem] theorem embT_str {m : Nat} {s : ByteArray} : embT st m (.str s) = ⟨True, .str s, []⟩ := emb_str (st := st) (m := m)
@[go_sem] theorem embT_nilp {m : Nat} : embT st m .nilp = ⟨True, .nilp, []⟩ := emb_nilp (st := st) (m := m)
@[go_sem] theorem embT_nils {m : Nat} : embT st m .nils = ⟨True, .nils, []⟩ := emb_nils (st := st) (m := m)
@[go_sem] theorem embT_nili {m : Nat} : embT st m .nili = ⟨True, .nili, []⟩ := emb_nili (st := st) (m := m)
@[go_sem] theorem embT_sl {m τ w : Nat} {xs : List AV} : embT st m (.sl τ w xs) = ⟨True, .sl τ w xs, []⟩ := emb_sl (st := st) (m := m)
@[go_sem] theorem embT_dptr {m τ : Nat} {xs : List AV} : embT st m (.dptr τ xs) = ⟨True, .dptr τ xs, []⟩ := emb_dptr (st := st) (m := m)
@[go_sem] theorem embT_osl {m r w off len : Nat} : embT st m (.osl r w off len) = embR m r w off len (st[r]?) := emb0_osl
@[go_sem] theorem embT_agg {m : Nat} {cs : List AV} : embT st m (.agg cs) = ⟨∀ c ∈ cs, (emb0 st m c).c, .agg (cs.map fun c => (emb0 st m c).v), cs.flatMap fun c => (emb0 st m c).rs⟩ := rfl
attribute [go_sem] nz_undef nz_int nz_bool nz_str nz_nilp nz_nils nz_nili nz_ifc nz_sl nz_dptr nz_fn nz_agg nz_tup nz_osl nz_ptr nz_map
end

/-! ### Environments seen anew -/
section
variable {e : Env}
@[go_sem] theorem vivs_nil : vivs [] e = e := rfl
@[go_sem] theorem vivs_cons {x : Nat × Nat × Nat} {l : List (Nat × Nat × Nat)} : vivs (x :: l) e = vivs l (vivT e x) := rfl
def vivV (v : AV) (t et w : Nat) (e : Env) : Env :=
  match v with
  | .nils => ⟨(t, .osl e.st.length w 0 0) :: e.tm, e.st ++ [.row et w []]⟩
  | _ => e
@[go_sem] theorem vivT_eq {t et w : Nat} : vivT e (t, et, w) = vivV (tv e.tm t) t et w e := by
  simp only [vivT, vivV]
  cases tv e.tm t <;> rfl
@[go_sem] theorem vivV_nils {t et w : Nat} {tm : List (Nat × AV)} {st : List Root} : vivV .nils t et w ⟨tm, st⟩ = ⟨(t, .osl st.length w 0 0) :: tm, st ++ [.row et w []]⟩ := rfl
@[go_sem] theorem vivV_osl {r w' off len t et w : Nat} : vivV (.osl r w' off len) t et w e = e := rfl
@[go_sem] theorem rootOf_osl {r w off len : Nat} : rootOf (.osl r w off len) = r := rfl
@[go_sem] theorem rootOf_ptr {r w i j : Nat} : rootOf (.ptr r w i j) = r := rfl
@[go_sem] theorem rootOf_map {r : Nat} : rootOf (.map r) = r := rfl
theorem subE_of {k : Nat} {viv : List (Nat × Nat × Nat)} {anch : List Nat} {e e' : Env} (h : SubE k viv anch e e') : Sub k e e' := h.sub
variable {pos : Nat → Option Nat}
@[go_sem] theorem rinOf_nil {st : List Root} : rinOf st [] = [] := rfl
@[go_sem] theorem rootrnp_gone : Root.rnp pos .gone = .gone := rfl
@[go_sem] theorem rootrnp_row {t w : Nat} {xs : List AV} : Root.rnp pos (.row t w xs) = .row t w xs := rfl
@[go_sem] theorem rootrnp_box {t : Nat} {xs : List AV} : Root.rnp pos (.box t xs) = .box t (xs.map (AV.rnp1 pos)) := rfl
@[go_sem] theorem rootrnp_mp {kv : List (AV × AV)} : Root.rnp pos (.mp kv) = .mp kv := rfl
end
end Go.Ve
