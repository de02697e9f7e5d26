/- The engine, part 24: regions that draw, in rewriting steps; words for loops. No condition. -/
import Derived.Test.YtfeaokelfbjcdaaE23
namespace Go.Ve
open Go.RowKit
set_option linter.unusedVariables false
set_option linter.unusedSimpArgs false

section
variable {P : Program} {n k : Nat} {T : List (Nat × Fsem)} {K : Env → Prop} {e : Env} {B : List (List Nat)} {i : Nat} {o : SOp} {l : List SOp} {hist : List (Nat × List Root)} {pend : List (Nat × Op × Option OpR)}
def vdK (q lk : Bool) (P : Program) (n : Nat) (T : List (Nat × Fsem)) (B : List (List Nat)) (i : Nat) (o : SOp) (l : List SOp) (hist : List (Nat × List Root)) (pend : List (Nat × Op × Option OpR)) (e : Env) (K : Env → Prop) : Prop :=
  bif q then
    (bif lk then (∀ h ∈ hist, bif anc B h.1 i then True else qval P n T ⟨e.tm, h.2⟩ o.op = qval P n T e o.op) else True) ∧
    vs P n T o e fun e' => vd P n T B (i + 1) l hist (bif lk then (i, o.op, qval P n T e o.op) :: pend else pend) e' K
  else vs P n T o e fun e' => (∀ p ∈ pend, bif anc B p.1 i then True else qval P n T e' p.2.1 = p.2.2) ∧ vd P n T B (i + 1) l ((i, e.st) :: hist) pend e' K
@[congr] theorem vdK_congr {q lk q' lk' : Bool} {i i' : Nat} {hist hist' : List (Nat × List Root)} {pend pend' : List (Nat × Op × Option OpR)} {e e' : Env} (h1 : q = q') (h2 : lk = lk') (h0 : i = i') (h3 : hist = hist') (h4 : pend = pend') (h5 : e = e') : vdK q lk P n T B i o l hist pend e K = vdK q' lk' P n T B i' o l hist' pend' e' K := by rw [h1, h2, h0, h3, h4, h5]
@[go_sem] theorem vd_cons : vd P n T B i (o :: l) hist pend e K = vdK (quiet T o.op) (looks o.op) P n T B i o l hist pend e K := rfl
theorem bif_if {b : Bool} {p : Prop} : (bif b then True else p) = (if b = true then True else p) := by cases b <;> simp
@[go_sem] theorem vdK_tt : vdK true true P n T B i o l hist pend e K = ((∀ h ∈ hist, if anc B h.1 i = true then True else qval P n T ⟨e.tm, h.2⟩ o.op = qval P n T e o.op) ∧ vs P n T o e fun e' => vd P n T B (i + 1) l hist ((i, o.op, qval P n T e o.op) :: pend) e' K) := by
  simp only [vdK, cond_true, bif_if]
@[go_sem] theorem vdK_tf : vdK true false P n T B i o l hist pend e K = vs P n T o e fun e' => vd P n T B (i + 1) l hist pend e' K := by
  simp only [vdK, cond_true, cond_false, true_and]
@[go_sem] theorem vdK_f {lk : Bool} : vdK false lk P n T B i o l hist pend e K = vs P n T o e fun e' => (∀ p ∈ pend, if anc B p.1 i = true then True else qval P n T e' p.2.1 = p.2.2) ∧ vd P n T B (i + 1) l ((i, e.st) :: hist) pend e' K := by
  simp only [vdK, cond_false, bif_if]
@[go_sem] theorem anc_eq {j : Nat} : anc B j i = (B.getD i []).contains j := rfl
end
/-! ### Regions whose operations all leave the roots alone: any order is as good -/
section
variable {P : Program} {n k : Nat} {T : List (Nat × Fsem)} {K : Env → Prop} {Q : Exit → Env → Prop} {e : Env} {B : List (List Nat)} {i : Nat} {o : SOp} {l : List SOp}
def vq (P : Program) (n : Nat) (T : List (Nat × Fsem)) : List SOp → Env → (Env → Prop) → Prop
  | [], e, K => K e
  | o :: l, e, K => vs P n T o e fun e' => vq P n T l e' K
@[congr] theorem vq_congr {e e' : Env} (h : e = e') : vq P n T l e K = vq P n T l e' K := by subst h; rfl
@[go_sem] theorem vq_nil : vq P n T [] e K = K e := rfl
@[go_sem] theorem vq_cons : vq P n T (o :: l) e K = vs P n T o e fun e' => vq P n T l e' K := rfl
def quietO (T : List (Nat × Fsem)) : List SOp → Bool
  | [] => true
  | o :: l => quiet T o.op && quietO T l
@[go_sem] theorem quietO_nil : quietO T [] = true := rfl
@[go_sem] theorem quietO_cons {d : Option Nat} {op : Op} {g : Option (Nat × Bool)} : quietO T (⟨d, op, g⟩ :: l) = (quiet T op && quietO T l) := rfl
theorem vd_vq : ∀ {l : List SOp} {i : Nat} {pend : List (Nat × Op × Option OpR)} {e : Env}, quietO T l = true → vd P n T B i l [] pend e K = vq P n T l e K
  | [], _, _, _, _ => rfl
  | o :: l, i, pend, e, h => by
    simp only [quietO, Bool.and_eq_true] at h
    unfold vd vq
    rw [h.1]
    simp only [cond_true]
    have h1 : (bif looks o.op then (∀ h ∈ ([] : List (Nat × List Root)), bif anc B h.1 i then True else qval P n T ⟨e.tm, h.2⟩ o.op = qval P n T e o.op) else True) = True := by
      cases looks o.op <;> simp
    rw [h1, true_and]
    congr 1
    funext e'
    exact vd_vq h.2
def drK (q : Bool) (P : Program) (n : Nat) (T : List (Nat × Fsem)) (B : List (List Nat)) (l : List SOp) (e : Env) (K : Env → Prop) : Prop :=
  bif q then vq P n T l e K else vd P n T B 0 l [] [] e K
@[congr] theorem drK_congr {q q' : Bool} {e e' : Env} (h0 : q = q') (h : e = e') : drK q P n T B l e K = drK q' P n T B l e' K := by subst h0 h; rfl
@[go_sem] theorem drK_t : drK true P n T B l e K = vq P n T l e K := rfl
@[go_sem] theorem drK_f : drK false P n T B l e K = vd P n T B 0 l [] [] e K := rfl
@[go_sem] theorem vc_dr : vc P n k T (.draw l B) Q e = drK (quietO T l) P n T B l e (Q .normal) := by
  rw [vc_draw]
  cases h : quietO T l
  · rfl
  · exact vd_vq h
end
section
variable {T : List (Nat × Fsem)}
@[go_sem] theorem qu_move {x : Operand} : quiet T (.move x) = true := rfl
@[go_sem] theorem qu_assign {x : Operand} : quiet T (.assign x) = true := rfl
@[go_sem] theorem qu_pick {c a b : Operand} : quiet T (.pick c a b) = true := rfl
@[go_sem] theorem qu_load {t : Nat} {a : Operand} : quiet T (.load t a) = true := rfl
@[go_sem] theorem qu_nil {x : Operand} : quiet T (.nilCheck x) = true := rfl
@[go_sem] theorem qu_bin {op : BinOp} {t : Nat} {x y : Operand} {z : Nat} : quiet T (.binOp op t x y z) = true := rfl
@[go_sem] theorem qu_un {op : UnOp} {t : Nat} {x : Operand} : quiet T (.unOp op t x) = true := rfl
@[go_sem] theorem qu_conv {s t : Nat} {x : Operand} : quiet T (.convert s t x) = true := rfl
@[go_sem] theorem qu_mkf {f : Fn} {a b : Array Operand} : quiet T (.makeFunc f a b) = true := rfl
@[go_sem] theorem qu_slice {t : Nat} {x : Operand} {lo hi mx : Option Operand} : quiet T (.slice t x lo hi mx) = true := rfl
@[go_sem] theorem qu_fa {t : Nat} {x : Operand} {f : Nat} : quiet T (.fieldAddr t x f) = true := rfl
@[go_sem] theorem qu_f {t : Nat} {x : Operand} {f : Nat} : quiet T (.field t x f) = true := rfl
@[go_sem] theorem qu_ia {t : Nat} {x i : Operand} : quiet T (.indexAddr t x i) = true := rfl
@[go_sem] theorem qu_i {t : Nat} {x i : Operand} : quiet T (.index t x i) = true := rfl
@[go_sem] theorem qu_lk {t : Nat} {x i : Operand} {ok : Bool} : quiet T (.lookup t x i ok) = true := rfl
@[go_sem] theorem qu_ex {x : Operand} {i : Nat} : quiet T (.extract x i) = true := rfl
@[go_sem] theorem qu_len {a : Array Operand} {t : Array Nat} : quiet T (.call ⟨.builtin .len, a, t⟩) = true := rfl
@[go_sem] theorem qu_max {a : Array Operand} {t : Array Nat} : quiet T (.call ⟨.builtin .max, a, t⟩) = true := rfl
@[go_sem] theorem qu_min {a : Array Operand} {t : Array Nat} : quiet T (.call ⟨.builtin .min, a, t⟩) = true := rfl
@[go_sem] theorem qu_app {a : Array Operand} {t : Array Nat} : quiet T (.call ⟨.builtin .append, a, t⟩) = false := rfl
@[go_sem] theorem qu_copy {a : Array Operand} {t : Array Nat} : quiet T (.call ⟨.builtin .copy, a, t⟩) = false := rfl
@[go_sem] theorem qu_call {f : Nat} {a : Array Operand} {t : Array Nat} : quiet T (.call ⟨.value (.func f), a, t⟩) = (tget T f).isSome := rfl
@[go_sem] theorem qu_callt {f : Nat} {a : Array Operand} {t : Array Nat} : quiet T (.call ⟨.value (.tmp f), a, t⟩) = false := rfl
@[go_sem] theorem qu_build {t : Nat} {ps : Array (Nat × Operand)} : quiet T (.build t ps) = true := rfl
@[go_sem] theorem qu_box {t : Nat} {x : Operand} : quiet T (.box t x) = false := rfl
@[go_sem] theorem qu_alloc {t : Nat} : quiet T (.alloc t) = false := rfl
@[go_sem] theorem qu_bs {t l : Nat} {ps : Array (Nat × Operand)} : quiet T (.buildSlice t l ps) = false := rfl
@[go_sem] theorem qu_ms {t : Nat} {l c : Operand} : quiet T (.makeSlice t l c) = false := rfl
@[go_sem] theorem qu_mm {t : Nat} {r : Option Operand} : quiet T (.makeMap t r) = false := rfl
@[go_sem] theorem qu_store {t : Nat} {p x : Operand} : quiet T (.store t p x) = false := rfl
@[go_sem] theorem qu_mu {t : Nat} {m k v : Operand} : quiet T (.mapUpdate t m k v) = false := rfl
@[go_sem] theorem lo_move {x : Operand} : looks (.move x) = false := rfl
@[go_sem] theorem lo_assign {x : Operand} : looks (.assign x) = false := rfl
@[go_sem] theorem lo_pick {c a b : Operand} : looks (.pick c a b) = false := rfl
@[go_sem] theorem lo_load {t : Nat} {a : Operand} : looks (.load t a) = true := rfl
@[go_sem] theorem lo_nil {x : Operand} : looks (.nilCheck x) = false := rfl
@[go_sem] theorem lo_bin {op : BinOp} {t : Nat} {x y : Operand} {z : Nat} : looks (.binOp op t x y z) = false := rfl
@[go_sem] theorem lo_un {op : UnOp} {t : Nat} {x : Operand} : looks (.unOp op t x) = false := rfl
@[go_sem] theorem lo_conv {s t : Nat} {x : Operand} : looks (.convert s t x) = false := rfl
@[go_sem] theorem lo_mkf {f : Fn} {a b : Array Operand} : looks (.makeFunc f a b) = false := rfl
@[go_sem] theorem lo_slice {t : Nat} {x : Operand} {lo hi mx : Option Operand} : looks (.slice t x lo hi mx) = false := rfl
@[go_sem] theorem lo_fa {t : Nat} {x : Operand} {f : Nat} : looks (.fieldAddr t x f) = false := rfl
@[go_sem] theorem lo_f {t : Nat} {x : Operand} {f : Nat} : looks (.field t x f) = false := rfl
@[go_sem] theorem lo_ia {t : Nat} {x i : Operand} : looks (.indexAddr t x i) = false := rfl
@[go_sem] theorem lo_i {t : Nat} {x i : Operand} : looks (.index t x i) = false := rfl
@[go_sem] theorem lo_lk {t : Nat} {x i : Operand} {ok : Bool} : looks (.lookup t x i ok) = true := rfl
@[go_sem] theorem lo_ex {x : Operand} {i : Nat} : looks (.extract x i) = false := rfl
@[go_sem] theorem lo_call {c : Call} : looks (.call c) = true := rfl
@[go_sem] theorem lo_build {t : Nat} {ps : Array (Nat × Operand)} : looks (.build t ps) = false := rfl
@[go_sem] theorem lo_box {t : Nat} {x : Operand} : looks (.box t x) = false := rfl
@[go_sem] theorem lo_alloc {t : Nat} : looks (.alloc t) = false := rfl
@[go_sem] theorem lo_bs {t l : Nat} {ps : Array (Nat × Operand)} : looks (.buildSlice t l ps) = false := rfl
@[go_sem] theorem lo_ms {t : Nat} {l c : Operand} : looks (.makeSlice t l c) = false := rfl
@[go_sem] theorem lo_mm {t : Nat} {r : Option Operand} : looks (.makeMap t r) = false := rfl
@[go_sem] theorem lo_store {t : Nat} {p x : Operand} : looks (.store t p x) = false := rfl
@[go_sem] theorem lo_mu {t : Nat} {m k v : Operand} : looks (.mapUpdate t m k v) = false := rfl
end

theorem wrap_ok {x : Int} (h1 : -9223372036854775808 ≤ x) (h2 : x ≤ 9223372036854775807) : IntKind.i64.wrap x = x := by rw [IntKind.wrap_i64]; omega
/-- The next index of a slice. -/
theorem wrap_next {i m : Nat} (hm : m ≤ maxLen) (h : i < m) : IntKind.i64.wrap ((i : Int) + 1) = (i : Int) + 1 := by
  refine wrap_ok (by omega) ?_
  simp only [maxLen] at hm
  omega
end Go.Ve
