/- The engine, part 19: the run in rewriting steps. No condition. -/
import Derived.Test.YtfeaokelfbjcdaaE18
namespace Go.Ve
open Go.RowKit
set_option linter.unusedVariables false
set_option linter.unusedSimpArgs false

/-- Behind a pointer into a root. -/
def behindR (w i j : Nat) (R : Option Root) : Prop × List AV :=
  match R with
  | some (.box _ cs) => (i = 0, cs.drop j)
  | some (.row _ w' xs) => (w = w' ∧ i < xs.length, (nth xs i).cells.drop j)
  | _ => (False, [])

section
variable {P : Program} {n k : Nat} {T : List (Nat × Fsem)} {K : Env → Prop} {Q : Exit → Env → Prop} {tm : List (Nat × AV)} {st : List Root} {e : Env}

/-! ### What is looked into, and what is not -/
@[congr] theorem vc_congr {s : SCode} {e e' : Env} (h : e = e') : vc P n k T s Q e = vc P n k T s Q e' := by rw [h]
@[congr] theorem VW_congr {s : SCode} {e e' : Env} (h : e = e') : VW P n k T s Q e = VW P n k T s Q e' := by rw [h]
@[congr] theorem vr_congr {l : List SOp} {e e' : Env} (h : e = e') : vr P n T l e K = vr P n T l e' K := by rw [h]
@[congr] theorem vs_congr {o : SOp} {e e' : Env} (h : e = e') : vs P n T o e K = vs P n T o e' K := by rw [h]
@[congr] theorem vopd_congr {d : Option Nat} {op : Op} {e e' : Env} (h : e = e') : vopd P n d op e K = vopd P n d op e' K := by rw [h]
@[congr] theorem vd_congr {B : List (List Nat)} {i : Nat} {l : List SOp} {hist hist' : List (Nat × List Root)} {pend pend' : List (Nat × Op × Option OpR)} {e e' : Env} (h : e = e') (h1 : hist = hist') (h2 : pend = pend') : vd P n T B i l hist pend e K = vd P n T B i l hist' pend' e' K := by rw [h, h1, h2]
@[congr] theorem vcond_congr {v v' : AV} {A B : Prop} (h : v = v') : vcond v A B = vcond v' A B := by rw [h]
@[congr] theorem thenQ_congr {K : Env → Prop} {x x' : Exit} {e e' : Env} (h : x = x') (h' : e = e') : thenQ K Q x e = thenQ K Q x' e' := by rw [h, h']
@[congr] theorem blockQ_congr {id : Nat} {x x' : Exit} {e e' : Env} (h : x = x') (h' : e = e') : blockQ id Q x e = blockQ id Q x' e' := by rw [h, h']

/-- An operation whose value is found. -/
def qK (P : Program) (n : Nat) (d : Option Nat) (op : Op) (q : Option OpR) (e : Env) (K : Env → Prop) : Prop :=
  match q with
  | some r => r.c ∧ K (e.put d r.v)
  | none => vopd P n d op e K
def gK (P : Program) (n : Nat) (d : Option Nat) (op : Op) (g : Option Bool) (q : Option OpR) (e : Env) (K : Env → Prop) : Prop :=
  match g with
  | none => False
  | some g => match q with
    | some r => (g = true → r.c) ∧ K (e.put d (.gd g r.v))
    | none => (g = true → vopd P n d op e K) ∧ (g = false → K (e.put d .undef))
@[congr] theorem qK_congr {d : Option Nat} {op : Op} {q q' : Option OpR} {e e' : Env} (h : q = q') (h' : e = e') : qK P n d op q e K = qK P n d op q' e' K := by rw [h, h']
@[congr] theorem gK_congr {d : Option Nat} {op : Op} {g g' : Option Bool} {q q' : Option OpR} {e e' : Env} (h0 : g = g') (h : q = q') (h' : e = e') : gK P n d op g q e K = gK P n d op g' q' e' K := by rw [h0, h, h']
@[go_sem] theorem vs_one {d : Option Nat} {op : Op} : vs P n T ⟨d, op, none⟩ e K = qK P n d op (qval P n T e op) e K := rfl
@[go_sem] theorem vs_two {d : Option Nat} {op : Op} {t : Nat} {b : Bool} : vs P n T ⟨d, op, some (t, b)⟩ e K = gK P n d op (bitOf (tv e.tm t) b) (qval P n T e op) e K := by
  simp only [vs, vsg, gK]
  cases bitOf (tv e.tm t) b <;> rfl
@[go_sem] theorem qK_some {d : Option Nat} {op : Op} {c : Prop} {v : AV} : qK P n d op (some ⟨c, v⟩) e K = (c ∧ K (e.put d v)) := rfl
@[go_sem] theorem qK_none {d : Option Nat} {op : Op} : qK P n d op none e K = vopd P n d op e K := rfl
@[go_sem] theorem gK_some {d : Option Nat} {op : Op} {c : Prop} {v : AV} {g : Bool} : gK P n d op (some g) (some ⟨c, v⟩) e K = ((g = true → c) ∧ K (e.put d (.gd g v))) := rfl
@[go_sem] theorem gK_none {d : Option Nat} {op : Op} {g : Bool} : gK P n d op (some g) none e K = ((g = true → vopd P n d op e K) ∧ (g = false → K (e.put d .undef))) := rfl

@[go_sem] theorem vr_nil : vr P n T [] e K = K e := rfl
@[go_sem] theorem vr_cons {o : SOp} {l : List SOp} : vr P n T (o :: l) e K = vsF P n T o e fun e' => vr P n T l e' K := rfl
@[congr] theorem vsF_congr {o : SOp} {e e' : Env} (h : e = e') : vsF P n T o e K = vsF P n T o e' K := by rw [h]
/-- A length, and what is known of it. -/
def lK (P : Program) (n : Nat) (d : Option Nat) (c : Prop) (f : Prop) (v : AV) (e : Env) (K : Env → Prop) : Prop := c ∧ (f → K (e.put d v))
@[congr] theorem lK_congr {d : Option Nat} {c c' f f' : Prop} {v v' : AV} {e e' : Env} (h1 : c = c') (h2 : f = f') (h3 : v = v') (h4 : e = e') : lK P n d c f v e K = lK P n d c' f' v' e' K := by rw [h1, h2, h3, h4]
@[go_sem] theorem lK_eq {d : Option Nat} {c f : Prop} {v : AV} : lK P n d c f v e K = (c ∧ (f → K (e.put d v))) := rfl
@[go_sem] theorem vsF_len {d : Option Nat} {x : Operand} {t : Nat} : vsF P n T ⟨d, .call ⟨.builtin .len, #[x], #[t]⟩, none⟩ e K = lK P n d (e.argc x ∧ (vLen P e.st t (e.arg x)).c) (lenFact (e.arg x)) (vLen P e.st t (e.arg x)).v e K := by
  simp only [vsF, lK, and_assoc]
theorem vsF_vs {o : SOp} (h : ∀ a t, o.g = none → o.op = .call ⟨.builtin .len, a, t⟩ → False) : vsF P n T o e K = vs P n T o e K := by
  unfold vsF
  split
  · rename_i x t h1 h2
    exact (h x t h1 h2).elim
  · rfl
@[go_sem] theorem vsF_g {d : Option Nat} {op : Op} {x : Nat × Bool} : vsF P n T ⟨d, op, some x⟩ e K = vs P n T ⟨d, op, some x⟩ e K := vsF_vs fun _ _ h => by cases h
@[go_sem] theorem vsF_move {d : Option Nat} {x : Operand} : vsF P n T ⟨d, .move x, none⟩ e K = vs P n T ⟨d, .move x, none⟩ e K := vsF_vs fun _ _ _ h => by cases h
@[go_sem] theorem vsF_assign {d : Option Nat} {x : Operand} : vsF P n T ⟨d, .assign x, none⟩ e K = vs P n T ⟨d, .assign x, none⟩ e K := vsF_vs fun _ _ _ h => by cases h
@[go_sem] theorem vsF_pick {d : Option Nat} {c a b : Operand} : vsF P n T ⟨d, .pick c a b, none⟩ e K = vs P n T ⟨d, .pick c a b, none⟩ e K := vsF_vs fun _ _ _ h => by cases h
@[go_sem] theorem vsF_load {d : Option Nat} {t : Nat} {a : Operand} : vsF P n T ⟨d, .load t a, none⟩ e K = vs P n T ⟨d, .load t a, none⟩ e K := vsF_vs fun _ _ _ h => by cases h
@[go_sem] theorem vsF_nil {d : Option Nat} {x : Operand} : vsF P n T ⟨d, .nilCheck x, none⟩ e K = vs P n T ⟨d, .nilCheck x, none⟩ e K := vsF_vs fun _ _ _ h => by cases h
@[go_sem] theorem vsF_bin {d : Option Nat} {op : BinOp} {t : Nat} {x y : Operand} {z : Nat} : vsF P n T ⟨d, .binOp op t x y z, none⟩ e K = vs P n T ⟨d, .binOp op t x y z, none⟩ e K := vsF_vs fun _ _ _ h => by cases h
@[go_sem] theorem vsF_un {d : Option Nat} {op : UnOp} {t : Nat} {x : Operand} : vsF P n T ⟨d, .unOp op t x, none⟩ e K = vs P n T ⟨d, .unOp op t x, none⟩ e K := vsF_vs fun _ _ _ h => by cases h
@[go_sem] theorem vsF_conv {d : Option Nat} {s t : Nat} {x : Operand} : vsF P n T ⟨d, .convert s t x, none⟩ e K = vs P n T ⟨d, .convert s t x, none⟩ e K := vsF_vs fun _ _ _ h => by cases h
@[go_sem] theorem vsF_mkf {d : Option Nat} {fn : Fn} {first caps : Array Operand} : vsF P n T ⟨d, .makeFunc fn first caps, none⟩ e K = vs P n T ⟨d, .makeFunc fn first caps, none⟩ e K := vsF_vs fun _ _ _ h => by cases h
@[go_sem] theorem vsF_slice {d : Option Nat} {t : Nat} {x : Operand} {lo hi mx : Option Operand} : vsF P n T ⟨d, .slice t x lo hi mx, none⟩ e K = vs P n T ⟨d, .slice t x lo hi mx, none⟩ e K := vsF_vs fun _ _ _ h => by cases h
@[go_sem] theorem vsF_fa {d : Option Nat} {t : Nat} {x : Operand} {f : Nat} : vsF P n T ⟨d, .fieldAddr t x f, none⟩ e K = vs P n T ⟨d, .fieldAddr t x f, none⟩ e K := vsF_vs fun _ _ _ h => by cases h
@[go_sem] theorem vsF_f {d : Option Nat} {t : Nat} {x : Operand} {f : Nat} : vsF P n T ⟨d, .field t x f, none⟩ e K = vs P n T ⟨d, .field t x f, none⟩ e K := vsF_vs fun _ _ _ h => by cases h
@[go_sem] theorem vsF_ia {d : Option Nat} {t : Nat} {x i : Operand} : vsF P n T ⟨d, .indexAddr t x i, none⟩ e K = vs P n T ⟨d, .indexAddr t x i, none⟩ e K := vsF_vs fun _ _ _ h => by cases h
@[go_sem] theorem vsF_i {d : Option Nat} {t : Nat} {x i : Operand} : vsF P n T ⟨d, .index t x i, none⟩ e K = vs P n T ⟨d, .index t x i, none⟩ e K := vsF_vs fun _ _ _ h => by cases h
@[go_sem] theorem vsF_lk {d : Option Nat} {t : Nat} {x i : Operand} {ok : Bool} : vsF P n T ⟨d, .lookup t x i ok, none⟩ e K = vs P n T ⟨d, .lookup t x i ok, none⟩ e K := vsF_vs fun _ _ _ h => by cases h
@[go_sem] theorem vsF_ex {d : Option Nat} {x : Operand} {i : Nat} : vsF P n T ⟨d, .extract x i, none⟩ e K = vs P n T ⟨d, .extract x i, none⟩ e K := vsF_vs fun _ _ _ h => by cases h
@[go_sem] theorem vsF_max {d : Option Nat} {a : Array Operand} {t : Array Nat} : vsF P n T ⟨d, .call ⟨.builtin .max, a, t⟩, none⟩ e K = vs P n T ⟨d, .call ⟨.builtin .max, a, t⟩, none⟩ e K := vsF_vs fun _ _ _ h => by cases h
@[go_sem] theorem vsF_min {d : Option Nat} {a : Array Operand} {t : Array Nat} : vsF P n T ⟨d, .call ⟨.builtin .min, a, t⟩, none⟩ e K = vs P n T ⟨d, .call ⟨.builtin .min, a, t⟩, none⟩ e K := vsF_vs fun _ _ _ h => by cases h
@[go_sem] theorem vsF_append {d : Option Nat} {a : Array Operand} {t : Array Nat} : vsF P n T ⟨d, .call ⟨.builtin .append, a, t⟩, none⟩ e K = vs P n T ⟨d, .call ⟨.builtin .append, a, t⟩, none⟩ e K := vsF_vs fun _ _ _ h => by cases h
@[go_sem] theorem vsF_copy {d : Option Nat} {a : Array Operand} {t : Array Nat} : vsF P n T ⟨d, .call ⟨.builtin .copy, a, t⟩, none⟩ e K = vs P n T ⟨d, .call ⟨.builtin .copy, a, t⟩, none⟩ e K := vsF_vs fun _ _ _ h => by cases h
@[go_sem] theorem vsF_call {d : Option Nat} {f : Operand} {a : Array Operand} {t : Array Nat} : vsF P n T ⟨d, .call ⟨.value f, a, t⟩, none⟩ e K = vs P n T ⟨d, .call ⟨.value f, a, t⟩, none⟩ e K := vsF_vs fun _ _ _ h => by cases h
@[go_sem] theorem vsF_build {d : Option Nat} {t : Nat} {ps : Array (Nat × Operand)} : vsF P n T ⟨d, .build t ps, none⟩ e K = vs P n T ⟨d, .build t ps, none⟩ e K := vsF_vs fun _ _ _ h => by cases h
@[go_sem] theorem vsF_box {d : Option Nat} {t : Nat} {x : Operand} : vsF P n T ⟨d, .box t x, none⟩ e K = vs P n T ⟨d, .box t x, none⟩ e K := vsF_vs fun _ _ _ h => by cases h
@[go_sem] theorem vsF_alloc {d : Option Nat} {t : Nat} : vsF P n T ⟨d, .alloc t, none⟩ e K = vs P n T ⟨d, .alloc t, none⟩ e K := vsF_vs fun _ _ _ h => by cases h
@[go_sem] theorem vsF_bs {d : Option Nat} {t l : Nat} {ps : Array (Nat × Operand)} : vsF P n T ⟨d, .buildSlice t l ps, none⟩ e K = vs P n T ⟨d, .buildSlice t l ps, none⟩ e K := vsF_vs fun _ _ _ h => by cases h
@[go_sem] theorem vsF_ms {d : Option Nat} {t : Nat} {l c : Operand} : vsF P n T ⟨d, .makeSlice t l c, none⟩ e K = vs P n T ⟨d, .makeSlice t l c, none⟩ e K := vsF_vs fun _ _ _ h => by cases h
@[go_sem] theorem vsF_mm {d : Option Nat} {t : Nat} {r : Option Operand} : vsF P n T ⟨d, .makeMap t r, none⟩ e K = vs P n T ⟨d, .makeMap t r, none⟩ e K := vsF_vs fun _ _ _ h => by cases h
@[go_sem] theorem vsF_store {d : Option Nat} {t : Nat} {p x : Operand} : vsF P n T ⟨d, .store t p x, none⟩ e K = vs P n T ⟨d, .store t p x, none⟩ e K := vsF_vs fun _ _ _ h => by cases h
@[go_sem] theorem vsF_mu {d : Option Nat} {t : Nat} {m k v : Operand} : vsF P n T ⟨d, .mapUpdate t m k v, none⟩ e K = vs P n T ⟨d, .mapUpdate t m k v, none⟩ e K := vsF_vs fun _ _ _ h => by cases h

@[go_sem] theorem vd_nil {B : List (List Nat)} {i : Nat} {hist : List (Nat × List Root)} {pend : List (Nat × Op × Option OpR)} : vd P n T B i [] hist pend e K = K e := rfl

@[go_sem] theorem vc_skip : vc P n k T .skip Q e = Q .normal e := rfl
@[go_sem] theorem vc_reg {l : List SOp} : vc P n k T (.reg l) Q e = vr P n T l e (Q .normal) := rfl
theorem vc_draw {l : List SOp} {B : List (List Nat)} : vc P n k T (.draw l B) Q e = vd P n T B 0 l [] [] e (Q .normal) := rfl
@[go_sem] theorem vc_seq {a b : SCode} : vc P n k T (.seq a b) Q e = vc P n k T a (thenQ (vc P n k T b Q) Q) e := rfl
@[go_sem] theorem vc_cond {c : Operand} {a b : SCode} : vc P n k T (.cond c a b) Q e = (e.argc c ∧ vcond (e.arg c) (vc P n k T a Q e) (vc P n k T b Q e)) := rfl
@[go_sem] theorem vc_block {id : Nat} {a : SCode} : vc P n k T (.block id a) Q e = vc P n k T a (blockQ id Q) e := rfl
@[go_sem] theorem vc_loop {a : SCode} : vc P n k T (.loop a) Q e = VW P n k T (.loop a) Q e := rfl
@[go_sem] theorem vc_exit {id : Nat} : vc P n k T (.exit id) Q e = Q (.exit id) e := rfl
@[go_sem] theorem vc_ret : vc P n k T .ret Q e = Q .ret e := rfl
@[go_sem] theorem vcond_bool {t : Bool} {A B : Prop} : vcond (.bool t) A B = ((t = true → A) ∧ (t = false → B)) := rfl
@[go_sem] theorem thenQ_normal {K : Env → Prop} : thenQ K Q .normal e = K e := rfl
@[go_sem] theorem thenQ_exit {K : Env → Prop} {id : Nat} : thenQ K Q (.exit id) e = Q (.exit id) e := rfl
@[go_sem] theorem thenQ_ret {K : Env → Prop} : thenQ K Q .ret e = Q .ret e := rfl
@[go_sem] theorem blockQ_normal {id : Nat} : blockQ id Q .normal e = Q .normal e := rfl
@[go_sem] theorem blockQ_ret {id : Nat} : blockQ id Q .ret e = Q .ret e := rfl
@[go_sem] theorem blockQ_exit {id i : Nat} : blockQ id Q (.exit i) e = if i = id then Q .normal e else Q (.exit i) e := rfl

/-! ### Values -/
@[go_sem] theorem tv_nil {i : Nat} : tv [] i = .undef := rfl
@[go_sem] theorem tv_cons {i j : Nat} {v : AV} {l : List (Nat × AV)} : tv ((j, v) :: l) i = if j = i then v else tv l i := rfl
@[go_sem] theorem put_some {i : Nat} {v : AV} : Env.put ⟨tm, st⟩ (some i) v = ⟨(i, v) :: tm, st⟩ := rfl
@[go_sem] theorem put_none {v : AV} : Env.put e none v = e := rfl
@[go_sem] theorem enT_nil {i : Nat} : enT i [] = [] := rfl
@[go_sem] theorem enT_cons {i : Nat} {x : AV} {xs : List AV} : enT i (x :: xs) = (i, x) :: enT (i + 1) xs := rfl

@[go_sem] theorem gc_undef : (AV.undef).gc = true := rfl
@[go_sem] theorem gc_int {k : IntKind} {n : Int} : (AV.int k n).gc = true := rfl
@[go_sem] theorem gc_bool {b : Bool} : (AV.bool b).gc = true := rfl
@[go_sem] theorem gc_str {s : ByteArray} : (AV.str s).gc = true := rfl
@[go_sem] theorem gc_nilp : (AV.nilp).gc = true := rfl
@[go_sem] theorem gc_nils : (AV.nils).gc = true := rfl
@[go_sem] theorem gc_nili : (AV.nili).gc = true := rfl
@[go_sem] theorem gc_ifc {t : TypeId} {v : AV} : (AV.ifc t v).gc = true := rfl
@[go_sem] theorem gc_sl {τ w : Nat} {xs : List AV} : (AV.sl τ w xs).gc = true := rfl
@[go_sem] theorem gc_dptr {τ : Nat} {xs : List AV} : (AV.dptr τ xs).gc = true := rfl
@[go_sem] theorem gc_osl {r w off len : Nat} : (AV.osl r w off len).gc = true := rfl
@[go_sem] theorem gc_ptr {r w i j : Nat} : (AV.ptr r w i j).gc = true := rfl
@[go_sem] theorem gc_map {r : Nat} : (AV.map r).gc = true := rfl
@[go_sem] theorem gc_fn {f : FuncId} {cs : List AV} : (AV.fn f cs).gc = true := rfl
@[go_sem] theorem gc_agg {cs : List AV} : (AV.agg cs).gc = true := rfl
@[go_sem] theorem gc_tup {cs : List AV} : (AV.tup cs).gc = true := rfl
@[go_sem] theorem gc_gd {g : Bool} {v : AV} : (AV.gd g v).gc = g := rfl
@[go_sem] theorem core_undef : (AV.undef).core = .undef := rfl
@[go_sem] theorem core_int {k : IntKind} {n : Int} : (AV.int k n).core = .int k n := rfl
@[go_sem] theorem core_bool {b : Bool} : (AV.bool b).core = .bool b := rfl
@[go_sem] theorem core_str {s : ByteArray} : (AV.str s).core = .str s := rfl
@[go_sem] theorem core_nilp : (AV.nilp).core = .nilp := rfl
@[go_sem] theorem core_nils : (AV.nils).core = .nils := rfl
@[go_sem] theorem core_nili : (AV.nili).core = .nili := rfl
@[go_sem] theorem core_ifc {t : TypeId} {v : AV} : (AV.ifc t v).core = .ifc t v := rfl
@[go_sem] theorem core_sl {τ w : Nat} {xs : List AV} : (AV.sl τ w xs).core = .sl τ w xs := rfl
@[go_sem] theorem core_dptr {τ : Nat} {xs : List AV} : (AV.dptr τ xs).core = .dptr τ xs := rfl
@[go_sem] theorem core_osl {r w off len : Nat} : (AV.osl r w off len).core = .osl r w off len := rfl
@[go_sem] theorem core_ptr {r w i j : Nat} : (AV.ptr r w i j).core = .ptr r w i j := rfl
@[go_sem] theorem core_map {r : Nat} : (AV.map r).core = .map r := rfl
@[go_sem] theorem core_fn {f : FuncId} {cs : List AV} : (AV.fn f cs).core = .fn f cs := rfl
@[go_sem] theorem core_agg {cs : List AV} : (AV.agg cs).core = .agg cs := rfl
@[go_sem] theorem core_tup {cs : List AV} : (AV.tup cs).core = .tup cs := rfl
@[go_sem] theorem core_gd {g : Bool} {v : AV} : (AV.gd g v).core = v := rfl
@[go_sem] theorem cells_int {k : IntKind} {n : Int} : (AV.int k n).cells = [.int k n] := rfl
@[go_sem] theorem cells_bool {b : Bool} : (AV.bool b).cells = [.bool b] := rfl
@[go_sem] theorem cells_str {s : ByteArray} : (AV.str s).cells = [.str s] := rfl
@[go_sem] theorem cells_nilp : (AV.nilp).cells = [.nilp] := rfl
@[go_sem] theorem cells_nils : (AV.nils).cells = [.nils] := rfl
@[go_sem] theorem cells_nili : (AV.nili).cells = [.nili] := rfl
@[go_sem] theorem cells_sl {τ w : Nat} {xs : List AV} : (AV.sl τ w xs).cells = [.sl τ w xs] := rfl
@[go_sem] theorem cells_dptr {τ : Nat} {xs : List AV} : (AV.dptr τ xs).cells = [.dptr τ xs] := rfl
@[go_sem] theorem cells_osl {r w off len : Nat} : (AV.osl r w off len).cells = [.osl r w off len] := rfl
@[go_sem] theorem cells_ptr {r w i j : Nat} : (AV.ptr r w i j).cells = [.ptr r w i j] := rfl
@[go_sem] theorem cells_map {r : Nat} : (AV.map r).cells = [.map r] := rfl
@[go_sem] theorem cells_fn {f : FuncId} {cs : List AV} : (AV.fn f cs).cells = [.fn f cs] := rfl
@[go_sem] theorem cells_agg {cs : List AV} : (AV.agg cs).cells = cs := rfl

@[go_sem] theorem argc_tmp {t : Nat} : Env.argc ⟨tm, st⟩ (.tmp t) = ((tv tm t).gc = true) := rfl
@[go_sem] theorem arg_tmp {t : Nat} : Env.arg ⟨tm, st⟩ (.tmp t) = (tv tm t).core := rfl
@[go_sem] theorem ev_tmp {t : Nat} : Env.ev ⟨tm, st⟩ (.tmp t) = tv tm t := rfl
theorem gc_ofCell (v : Value) : (ofCell v).gc = true := by
  unfold ofCell
  split <;> rfl
theorem gc_ofValue (v : Value) : (ofValue v).gc = true := by
  unfold ofValue
  split
  · rename_i cs
    cases cs.toList.all Value.oneCell' <;> rfl
  · exact gc_ofCell v
theorem core_ofCell (v : Value) : (ofCell v).core = ofCell v := by
  unfold ofCell
  split <;> rfl
theorem core_ofValue (v : Value) : (ofValue v).core = ofValue v := by
  unfold ofValue
  split
  · rename_i cs
    cases cs.toList.all Value.oneCell' <;> rfl
  · exact core_ofCell v
@[go_sem] theorem argc_const {v : Value} : Env.argc e (.const v) = True := by simp only [Env.argc, Env.ev, gc_ofValue]
@[go_sem] theorem arg_const {v : Value} : Env.arg e (.const v) = ofValue v := by simp only [Env.arg, Env.ev, core_ofValue]
@[go_sem] theorem ev_const {v : Value} : Env.ev e (.const v) = ofValue v := rfl
@[go_sem] theorem argc_func {f : Nat} : Env.argc e (.func f) = True := by simp [Env.argc, Env.ev, AV.gc]
@[go_sem] theorem arg_func {f : Nat} : Env.arg e (.func f) = .fn f [] := rfl
@[go_sem] theorem ev_func {f : Nat} : Env.ev e (.func f) = .fn f [] := rfl
@[go_sem] theorem ofValue_int {k : IntKind} {n : Int} : ofValue (.int k n) = .int k n := rfl
@[go_sem] theorem ofValue_bool {b : Bool} : ofValue (.bool b) = .bool b := rfl
@[go_sem] theorem ofValue_str {s : ByteArray} : ofValue (.string s) = .str s := rfl
@[go_sem] theorem ofValue_nilp : ofValue (.pointer none) = .nilp := rfl
@[go_sem] theorem ofValue_nils : ofValue (.slice none 0 0) = .nils := rfl
@[go_sem] theorem ofValue_nili : ofValue .nilIface = .nili := rfl

/-! ### Operations -/
@[go_sem] theorem q_move {x : Operand} : qval P n T e (.move x) = some ⟨e.argc x, e.arg x⟩ := rfl
@[go_sem] theorem q_assign {x : Operand} : qval P n T e (.assign x) = some ⟨e.argc x, e.arg x⟩ := rfl
@[go_sem] theorem q_pick {c a b : Operand} : qval P n T e (.pick c a b) = some (pickv (e.ev c) (e.ev a) (e.ev b)) := rfl
@[go_sem] theorem q_load {t : Nat} {a : Operand} : qval P n T e (.load t a) = some ⟨e.argc a ∧ (behind e.st (e.arg a)).1 ∧ (ldv P t (behind e.st (e.arg a)).2).c, (ldv P t (behind e.st (e.arg a)).2).v⟩ := rfl
@[go_sem] theorem q_nil {x : Operand} : qval P n T e (.nilCheck x) = some ⟨e.argc x ∧ (vNil (e.arg x)).c, (vNil (e.arg x)).v⟩ := rfl
@[go_sem] theorem q_bin {op : BinOp} {t : Nat} {x y : Operand} {z : Nat} : qval P n T e (.binOp op t x y z) = some ⟨e.argc x ∧ e.argc y ∧ (vbin P op t (e.arg x) (e.arg y)).c, (vbin P op t (e.arg x) (e.arg y)).v⟩ := rfl
@[go_sem] theorem q_un {op : UnOp} {t : Nat} {x : Operand} : qval P n T e (.unOp op t x) = some ⟨e.argc x ∧ (vUn op (e.arg x)).c, (vUn op (e.arg x)).v⟩ := rfl
@[go_sem] theorem q_conv {s d : Nat} {x : Operand} : qval P n T e (.convert s d x) = some ⟨e.argc x ∧ (vConv P s d (e.arg x)).c, (vConv P s d (e.arg x)).v⟩ := rfl
@[go_sem] theorem q_mkf {f : Nat} {first caps : Array Operand} : qval P n T e (.makeFunc (.func f) first caps) = some ⟨first.size = 0 ∧ (∀ x ∈ caps.toList, e.argc x), .fn f (caps.toList.map e.arg)⟩ := rfl
@[go_sem] theorem q_slice {t : Nat} {x : Operand} {lo hi : Option Operand} : qval P n T e (.slice t x lo hi none) = some ⟨e.argc x ∧ (∀ y ∈ lo.toList ++ hi.toList, e.argc y) ∧ (vSlice P t (e.arg x) (lo.map e.arg) (hi.map e.arg)).c, (vSlice P t (e.arg x) (lo.map e.arg) (hi.map e.arg)).v⟩ := rfl
@[go_sem] theorem q_fa {t : Nat} {x : Operand} {f : Nat} : qval P n T e (.fieldAddr t x f) = some ⟨e.argc x ∧ (vField P t f (e.arg x)).c, (vField P t f (e.arg x)).v⟩ := rfl
@[go_sem] theorem q_f {t : Nat} {x : Operand} {f : Nat} : qval P n T e (.field t x f) = some ⟨e.argc x ∧ (vFieldV P t (e.arg x) f).c, (vFieldV P t (e.arg x) f).v⟩ := rfl
@[go_sem] theorem q_ia {t : Nat} {x i : Operand} : qval P n T e (.indexAddr t x i) = some ⟨e.argc x ∧ e.argc i ∧ (vIndexAddr P t (e.arg x) (e.arg i)).c, (vIndexAddr P t (e.arg x) (e.arg i)).v⟩ := rfl
@[go_sem] theorem q_i {t : Nat} {x i : Operand} : qval P n T e (.index t x i) = some ⟨e.argc x ∧ e.argc i ∧ (vIndex P t (e.arg x) (e.arg i)).c, (vIndex P t (e.arg x) (e.arg i)).v⟩ := rfl
@[go_sem] theorem q_lk {t : Nat} {x i : Operand} {ok : Bool} : qval P n T e (.lookup t x i ok) = some ⟨e.argc x ∧ e.argc i ∧ (vLookup P e.st t (e.arg x) (e.arg i) ok).c, (vLookup P e.st t (e.arg x) (e.arg i) ok).v⟩ := rfl
@[go_sem] theorem q_ex {x : Operand} {i : Nat} : qval P n T e (.extract x i) = some ⟨e.argc x ∧ (vExtract (e.arg x) i).c, (vExtract (e.arg x) i).v⟩ := rfl
@[go_sem] theorem q_len {x : Operand} {t : Nat} : qval P n T e (.call ⟨.builtin .len, #[x], #[t]⟩) = some ⟨e.argc x ∧ (vLen P e.st t (e.arg x)).c, (vLen P e.st t (e.arg x)).v⟩ := rfl
@[go_sem] theorem q_max {x y : Operand} {t : Array Nat} : qval P n T e (.call ⟨.builtin .max, #[x, y], t⟩) = some ⟨e.argc x ∧ e.argc y ∧ (vMax (e.arg x) (e.arg y)).c, (vMax (e.arg x) (e.arg y)).v⟩ := rfl
@[go_sem] theorem q_min {x y : Operand} {t : Array Nat} : qval P n T e (.call ⟨.builtin .min, #[x, y], t⟩) = some ⟨e.argc x ∧ e.argc y ∧ (vMin (e.arg x) (e.arg y)).c, (vMin (e.arg x) (e.arg y)).v⟩ := rfl
/-- A call, once its function is found. -/
def callR (n : Nat) (e : Env) (f : Operand) (args : List Operand) (s : Option OpR) : Option OpR :=
  match s with
  | some r => some ⟨e.argc f ∧ (∀ x ∈ args, e.argc x) ∧ r.c, r.v⟩
  | none => none
@[go_sem] theorem q_call {f : Operand} {args : Array Operand} {t : Array Nat} : qval P n T e (.call ⟨.value f, args, t⟩) = callR n e f args.toList (tcall n T e.st (e.arg f) (args.toList.map e.arg)) := by
  simp only [qval, callR]
  cases tcall n T e.st (e.arg f) (args.toList.map e.arg) <;> rfl
@[go_sem] theorem callR_some {f : Operand} {args : List Operand} {c : Prop} {v : AV} : callR n e f args (some ⟨c, v⟩) = some ⟨e.argc f ∧ (∀ x ∈ args, e.argc x) ∧ c, v⟩ := rfl
@[go_sem] theorem callR_none {f : Operand} {args : List Operand} : callR n e f args none = none := rfl
@[go_sem] theorem q_build {t : Nat} {ps : Array (Nat × Operand)} : qval P n T e (.build t ps) = some ⟨(∀ p ∈ ps.toList, e.argc p.2) ∧ (vBuild P t (ps.toList.map fun p => (p.1, e.arg p.2))).c, (vBuild P t (ps.toList.map fun p => (p.1, e.arg p.2))).v⟩ := rfl
@[go_sem] theorem q_box {t : Nat} {x : Operand} : qval P n T e (.box t x) = none := rfl
@[go_sem] theorem q_alloc {t : Nat} : qval P n T e (.alloc t) = none := rfl
@[go_sem] theorem q_bs {t l : Nat} {ps : Array (Nat × Operand)} : qval P n T e (.buildSlice t l ps) = none := rfl
@[go_sem] theorem q_ms {t : Nat} {l c : Operand} : qval P n T e (.makeSlice t l c) = none := rfl
@[go_sem] theorem q_mm {t : Nat} {r : Option Operand} : qval P n T e (.makeMap t r) = none := rfl
@[go_sem] theorem q_store {t : Nat} {p x : Operand} : qval P n T e (.store t p x) = none := rfl
@[go_sem] theorem q_mu {t : Nat} {m k v : Operand} : qval P n T e (.mapUpdate t m k v) = none := rfl
@[go_sem] theorem q_append {a : Array Operand} {t : Array Nat} : qval P n T e (.call ⟨.builtin .append, a, t⟩) = none := rfl
@[go_sem] theorem q_copy {a : Array Operand} {t : Array Nat} : qval P n T e (.call ⟨.builtin .copy, a, t⟩) = none := rfl

@[go_sem] theorem pick_bool {t : Bool} {a b : AV} : pickv (.bool t) a b = pickv (.gd true (.bool t)) a b := rfl
@[go_sem] theorem pick_gd {g t x y : Bool} {gx gy : Bool} : pickv (.gd g (.bool t)) (.gd gx (.bool x)) (.gd gy (.bool y)) = ⟨g = true ∧ (t = true → gx = true) ∧ (t = false → gy = true), .bool (bif t then x else y)⟩ := rfl
@[go_sem] theorem pick_gd1 {g t x y : Bool} {gx : Bool} : pickv (.gd g (.bool t)) (.gd gx (.bool x)) (.bool y) = ⟨g = true ∧ (t = true → gx = true), .bool (bif t then x else y)⟩ := by
  simp [pickv, AV.core, AV.gc]
@[go_sem] theorem pick_gd2 {g t x y : Bool} {gy : Bool} : pickv (.gd g (.bool t)) (.bool x) (.gd gy (.bool y)) = ⟨g = true ∧ (t = false → gy = true), .bool (bif t then x else y)⟩ := by
  simp [pickv, AV.core, AV.gc]
@[go_sem] theorem pick_gd3 {g t x y : Bool} : pickv (.gd g (.bool t)) (.bool x) (.bool y) = ⟨g = true, .bool (bif t then x else y)⟩ := by
  simp [pickv, AV.core, AV.gc]

theorem pick_gf' {g : Bool} {a b : AV} : pickv (.gd g (.bool false)) a b = ⟨g = true ∧ b.gc = true, b.core⟩ := by
  unfold pickv
  split
  · rename_i t x y h1 h2 h3
    cases (show AV.bool false = AV.bool t from h1)
    rw [h3]
    simp [gc_gd]
  · rename_i t h1 h2
    cases (show AV.bool false = AV.bool t from h1)
    simp [gc_gd]
  · rename_i h1 h2
    first | exact (h1 _ rfl).elim | exact (h2 _ rfl).elim | exact (h2 _ _ _ rfl rfl rfl).elim
theorem pick_gt' {g : Bool} {a b : AV} : pickv (.gd g (.bool true)) a b = ⟨g = true ∧ a.gc = true, a.core⟩ := by
  unfold pickv
  split
  · rename_i t x y h1 h2 h3
    cases (show AV.bool true = AV.bool t from h1)
    rw [h2]
    simp [gc_gd]
  · rename_i t h1 h2
    cases (show AV.bool true = AV.bool t from h1)
    simp [gc_gd]
  · rename_i h1 h2
    first | exact (h1 _ rfl).elim | exact (h2 _ rfl).elim | exact (h2 _ _ _ rfl rfl rfl).elim
@[go_sem high] theorem pick_gf {g : Bool} {a b : AV} : pickv (.gd g (.bool false)) a b = ⟨g = true ∧ b.gc = true, b.core⟩ := pick_gf'
@[go_sem high] theorem pick_gt {g : Bool} {a b : AV} : pickv (.gd g (.bool true)) a b = ⟨g = true ∧ a.gc = true, a.core⟩ := pick_gt'
@[go_sem] theorem bitOf_bool {b w : Bool} : bitOf (.bool b) w = some (b == w) := rfl
@[go_sem] theorem bitOf_gd {g b w : Bool} : bitOf (.gd g (.bool b)) w = some (g && (b == w)) := rfl

@[go_sem] theorem behind_dptr {τ : Nat} {cs : List AV} : behind st (.dptr τ cs) = (True, cs) := rfl
@[go_sem] theorem behind_ptr {r w i j : Nat} : behind st (.ptr r w i j) = behindR w i j (st[r]?) := by
  simp only [behind, behindR]
  cases st[r]? with
  | none => rfl
  | some R => cases R <;> rfl
end
end Go.Ve
