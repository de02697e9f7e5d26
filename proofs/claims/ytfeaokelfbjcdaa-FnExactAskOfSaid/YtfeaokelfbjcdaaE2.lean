/- The engine, part 2: every operation without effect. No condition. -/
import Derived.Test.YtfeaokelfbjcdaaE1
import Derived.Laws.Shifts
import Derived.Laws.IdiomMaps
namespace Go.Ve
open Go.RowKit
set_option linter.unusedVariables false
set_option linter.unusedSimpArgs false

section
variable {P : Program} {W : World} {D : Nat → Nat → Prop} {β : Nat → Option Nat}

theorem guard_int (op : BinOp) (t : Nat) (x y : Operand) (k k' : IntKind) (a b : Int) : (eqGuard op t x y (.int k a) (.int k' b)).run P W = .ok () W := by cases op <;> rfl
theorem guard_str (op : BinOp) (t : Nat) (x y : Operand) (a b : ByteArray) : (eqGuard op t x y (.string a) (.string b)).run P W = .ok () W := by cases op <;> rfl
theorem guard_bool (op : BinOp) (t : Nat) (x y : Operand) (a b : Bool) : (eqGuard op t x y (.bool a) (.bool b)).run P W = .ok () W := by cases op <;> rfl
theorem guard_ptr (op : BinOp) (t : Nat) (x y : Operand) (a b : Option Addr) : (eqGuard op t x y (.pointer a) (.pointer b)).run P W = .ok () W := by cases op <;> rfl
theorem tyOf_ptr {t : Nat} (ht : tyOf P t = .ptr) : P.underlying t = some (.pointer (P.pointee t)) := by
  unfold tyOf at ht
  split at ht <;> simp_all [Program.pointee]

theorem vbin_ok {op : BinOp} {t : Nat} {ox oy : Operand} {vx vy : Value} {x y : AV} (hx : Rep W D β vx x) (hy : Rep W D β vy y) (hc : (vbin P op t x y).c) :
    ∃ u, ((eqGuard op t ox oy vx vy).run P W = .ok () W ∧ (binOp op t vx vy).run P W = .ok u W) ∧ Rep W D β u (vbin P op t x y).v := by
  unfold vbin at hc ⊢
  split at hc
  · rename_i k a k' b
    obtain rfl := rep_int hx
    obtain rfl := rep_int hy
    have hgd := guard_int (P := P) (W := W) op t ox oy k k' a b
    cases op
    case shl =>
      have h0 : ¬ b < 0 := by simp only at hc; omega
      exact ⟨.int k (k.wrap (a * 2 ^ min b.toNat k.bits)), ⟨hgd, by simp [binOp, Op.shift, h0]⟩, .data _ _ (.int ..)⟩
    case shr =>
      have h0 : ¬ b < 0 := by simp only at hc; omega
      exact ⟨.int k (a.fdiv (2 ^ min b.toNat k.bits)), ⟨hgd, by simp [binOp, Op.shift, h0]⟩, .data _ _ (.int ..)⟩
    case quo =>
      simp only [vIntBin] at hc ⊢
      obtain ⟨rfl, hb⟩ := hc
      exact ⟨_, ⟨hgd, by simp [binOp, Op.intDiv, hb]⟩, .data _ _ (.int ..)⟩
    case rem =>
      simp only [vIntBin] at hc ⊢
      obtain ⟨rfl, hb⟩ := hc
      exact ⟨_, ⟨hgd, by simp [binOp, Op.intDiv, hb]⟩, .data _ _ (.int ..)⟩
    case and =>
      simp only [vIntBin] at hc ⊢
      obtain ⟨rfl, _⟩ := hc
      exact ⟨_, ⟨hgd, by simp [binOp, Op.intBits, vbits]⟩, .data _ _ (.int ..)⟩
    case or =>
      simp only [vIntBin] at hc ⊢
      obtain ⟨rfl, _⟩ := hc
      exact ⟨_, ⟨hgd, by simp [binOp, Op.intBits, vbits]⟩, .data _ _ (.int ..)⟩
    case xor =>
      simp only [vIntBin] at hc ⊢
      obtain ⟨rfl, _⟩ := hc
      exact ⟨_, ⟨hgd, by simp [binOp, Op.intBits, vbits]⟩, .data _ _ (.int ..)⟩
    case andNot =>
      simp only [vIntBin] at hc ⊢
      obtain ⟨rfl, _⟩ := hc
      exact ⟨_, ⟨hgd, by simp [binOp, Op.intBits, vbits]⟩, .data _ _ (.int ..)⟩
    case add =>
      simp only [vIntBin] at hc ⊢
      obtain ⟨rfl, _⟩ := hc
      exact ⟨_, ⟨hgd, by simp [binOp, Op.intArith]⟩, .data _ _ (.int ..)⟩
    case sub =>
      simp only [vIntBin] at hc ⊢
      obtain ⟨rfl, _⟩ := hc
      exact ⟨_, ⟨hgd, by simp [binOp, Op.intArith]⟩, .data _ _ (.int ..)⟩
    case mul =>
      simp only [vIntBin] at hc ⊢
      obtain ⟨rfl, _⟩ := hc
      exact ⟨_, ⟨hgd, by simp [binOp, Op.intArith]⟩, .data _ _ (.int ..)⟩
    case eql =>
      simp only [vIntBin] at hc ⊢
      obtain ⟨rfl, _⟩ := hc
      exact ⟨.bool (decide (a = b)), ⟨hgd, by simp [binOp, Op.intCmp]; rfl⟩, .data _ _ (.bool ..)⟩
    case neq =>
      simp only [vIntBin] at hc ⊢
      obtain ⟨rfl, _⟩ := hc
      exact ⟨.bool (!decide (a = b)), ⟨hgd, by simp [binOp, Op.intCmp, bne]; rfl⟩, .data _ _ (.bool ..)⟩
    case lss =>
      simp only [vIntBin] at hc ⊢
      obtain ⟨rfl, _⟩ := hc
      exact ⟨.bool (decide (a < b)), ⟨hgd, by simp [binOp, Op.intCmp]⟩, .data _ _ (.bool ..)⟩
    case leq =>
      simp only [vIntBin] at hc ⊢
      obtain ⟨rfl, _⟩ := hc
      exact ⟨.bool (decide (a ≤ b)), ⟨hgd, by simp [binOp, Op.intCmp]⟩, .data _ _ (.bool ..)⟩
    case gtr =>
      simp only [vIntBin] at hc ⊢
      obtain ⟨rfl, _⟩ := hc
      exact ⟨.bool (decide (b < a)), ⟨hgd, by simp [binOp, Op.intCmp]⟩, .data _ _ (.bool ..)⟩
    case geq =>
      simp only [vIntBin] at hc ⊢
      obtain ⟨rfl, _⟩ := hc
      exact ⟨.bool (decide (b ≤ a)), ⟨hgd, by simp [binOp, Op.intCmp]⟩, .data _ _ (.bool ..)⟩
  · rename_i a b
    obtain rfl := rep_str hx
    obtain rfl := rep_str hy
    have hgd := guard_str (P := P) (W := W) op t ox oy a b
    cases op <;> simp only [vStrBin] at hc ⊢ <;> try exact hc.elim
    case add =>
      have h0 : ¬ ((9223372036854775807 : Int) < (a.size : Int) + (b.size : Int)) := by omega
      exact ⟨_, ⟨hgd, by simp [binOp, Op.stringOp, h0]⟩, .data _ _ (.str ..)⟩
    all_goals exact ⟨_, ⟨hgd, by simp only [binOp, Op.stringOp, toList_eq_iff]; rfl⟩, .data _ _ (.bool ..)⟩
  · rename_i a b
    obtain rfl := rep_bool hx
    obtain rfl := rep_bool hy
    have hgd := guard_bool (P := P) (W := W) op t ox oy a b
    cases op <;> simp only at hc ⊢ <;> try exact hc.elim
    · exact ⟨_, ⟨hgd, run_eql_bool W t a b (tyOf_bool hc)⟩, .data _ _ (.bool ..)⟩
    · exact ⟨_, ⟨hgd, run_neq_bool W t a b (tyOf_bool hc)⟩, .data _ _ (.bool ..)⟩
  · rename_i xs ys
    have agg_inv : ∀ {v : Value} {cs : List AV}, Rep W D β v (.agg cs) → ∃ vs : Array Value, v = .agg vs ∧ vs.size = cs.length ∧ ∀ (i : Nat) (z : AV), cs[i]? = some z → ∃ u, vs[i]? = some u ∧ Rep W D β u z := by
      intro v cs h
      cases h with
      | data _ _ h => cases h
      | agg vs cs u hl hu ho hr => exact ⟨vs, rfl, hl, fun i z hz => ⟨u i, hu i z hz, hr i z hz⟩⟩
    obtain ⟨vx, rfl, hvx⟩ := agg_inv hx
    obtain ⟨vy, rfl, hvy⟩ := agg_inv hy
    have go : ∀ b, cellsEq xs ys = some b → eqOk P t (xs.map AV.kind) = true → (Op.equalIn 10000 t (.agg vx) (.agg vy)).run P W = .ok b W ∧ (eqGuard op t ox oy (.agg vx) (.agg vy)).run P W = .ok () W := by
      intro b hb he
      simp only [eqOk, Bool.and_eq_true, beq_iff_eq, Bool.not_eq_true'] at he
      have hagg : tyOf P t = .agg := by
        have := he.2
        split at this
        · rename_i h; exact h
        · cases this
      exact ⟨equal_flat 20 t _ he.1.1 10000 _ _ xs ys b (by decide) rfl (.inl ⟨hagg, vx, rfl, hvx⟩) (.inl ⟨hagg, vy, rfl, hvy⟩) hb, run_eqGuard_agg W op t ox oy vx vy he.1.2⟩
    split at hc
    · rename_i b hb
      obtain ⟨h1, h2⟩ := go b hb hc
      exact ⟨.bool b, ⟨h2, by rw [run_eql_struct, h1]; rfl⟩, .data _ _ (.bool ..)⟩
    · rename_i b hb
      obtain ⟨h1, h2⟩ := go b hb hc
      exact ⟨.bool (!b), ⟨h2, by rw [run_neq_struct, h1]; rfl⟩, .data _ _ (.bool ..)⟩
    · exact hc.elim
  · obtain rfl := rep_nilp hx
    obtain rfl := rep_nilp hy
    have hgd := guard_ptr (P := P) (W := W) op t ox oy none none
    cases op <;> simp only at hc ⊢ <;> try exact hc.elim
    · exact ⟨_, ⟨hgd, run_eql_pointer_nil W t none (tyOf_ptr hc)⟩, .data _ _ (.bool ..)⟩
    · exact ⟨_, ⟨hgd, run_neq_pointer_nil W t none (tyOf_ptr hc)⟩, .data _ _ (.bool ..)⟩
  · obtain rfl := rep_nilp hy
    obtain ⟨a, rfl⟩ : ∃ a, vx = .pointer (some a) := by
      cases hx with
      | data _ _ h => cases h with | dptr a => exact ⟨a, rfl⟩
    have hgd := guard_ptr (P := P) (W := W) op t ox oy (some a) none
    cases op <;> simp only at hc ⊢ <;> try exact hc.elim
    · exact ⟨_, ⟨hgd, run_eql_pointer_nil W t (some a) (tyOf_ptr hc)⟩, .data _ _ (.bool ..)⟩
    · exact ⟨_, ⟨hgd, run_neq_pointer_nil W t (some a) (tyOf_ptr hc)⟩, .data _ _ (.bool ..)⟩
  · obtain rfl := rep_nilp hy
    obtain ⟨a, rfl⟩ : ∃ a, vx = .pointer (some a) := by
      cases hx with
      | data _ _ h => cases h
      | ptr r w i j g => exact ⟨_, rfl⟩
    have hgd := guard_ptr (P := P) (W := W) op t ox oy (some a) none
    cases op <;> simp only at hc ⊢ <;> try exact hc.elim
    · exact ⟨_, ⟨hgd, run_eql_pointer_nil W t (some a) (tyOf_ptr hc)⟩, .data _ _ (.bool ..)⟩
    · exact ⟨_, ⟨hgd, run_neq_pointer_nil W t (some a) (tyOf_ptr hc)⟩, .data _ _ (.bool ..)⟩
  · exact hc.elim
end

/-! ### The other operations without effect -/
def vUn (op : UnOp) (x : AV) : OpR :=
  match op, x with
  | .not, .bool b => ⟨True, .bool (!b)⟩
  | .neg, .int k n => ⟨True, .int k (k.wrap (0 - n))⟩
  | _, _ => .no
def vConv (P : Program) (src dst : Nat) (x : AV) : OpR :=
  match tyOf P dst, x with
  | .int k, .int _ n => ⟨(P.underlying src).isSome = true, .int k (k.wrap n)⟩
  | .str, .str s => ⟨(P.underlying src).isSome = true, .str s⟩
  | _, _ => .no
def vExtract (x : AV) (i : Nat) : OpR :=
  match x with
  | .tup xs => ⟨i < xs.length, nth xs i⟩
  | _ => .no
def vFieldV (P : Program) (s : Nat) (x : AV) (f : Nat) : OpR :=
  match fld P s f, x with
  | some (off, ft), .agg cs => match tyOf P ft with
    | .agg => ⟨off + P.cellsOf ft ≤ cs.length, .agg ((cs.drop off).take (P.cellsOf ft))⟩
    | .other => .no
    | _ => ⟨off < cs.length, nth cs off⟩
  | _, _ => .no
def vLen (P : Program) (st : List Root) (t : Nat) (x : AV) : OpR :=
  match tyOf P t, x with
  | .sl _, .sl _ _ xs => ⟨True, .int .i64 xs.length⟩
  | .sl _, .osl _ _ _ len => ⟨True, .int .i64 len⟩
  | .sl _, .nils => ⟨True, .int .i64 0⟩
  | .str, .str s => ⟨True, .int .i64 s.size⟩
  | .mp _ _, .map r => match st[r]? with
    | some (.mp kv) => ⟨True, .int .i64 kv.length⟩
    | _ => .no
  | _, _ => .no
def vIndex (P : Program) (t : Nat) (x i : AV) : OpR :=
  match tyOf P t, x, i with
  | .str, .str s, .int _ n => ⟨0 ≤ n ∧ n < s.size, .int .u8 ((s.data.toList.getD n.toNat 0).toNat)⟩
  | _, _, _ => .no
/-- A bound of a cut: what it is, and when it is known. -/
def bnd (d : Nat) : Option AV → Prop × Int
  | none => (True, d)
  | some (.int _ n) => (True, n)
  | _ => (False, 0)
def vSlice (P : Program) (t : Nat) (x : AV) (lo hi : Option AV) : OpR :=
  match tyOf P t, x with
  | .sl e, .sl τ w xs =>
    ⟨P.cellsOf e = w ∧ (P.info? e).isSome = true ∧ (bnd 0 lo).1 ∧ (bnd xs.length hi).1 ∧ 0 ≤ (bnd 0 lo).2 ∧ (bnd 0 lo).2 ≤ (bnd xs.length hi).2 ∧ (bnd xs.length hi).2 ≤ xs.length, .sl τ w ((xs.take (bnd xs.length hi).2.toNat).drop (bnd 0 lo).2.toNat)⟩
  | .sl e, .osl r w off len =>
    ⟨P.cellsOf e = w ∧ (P.info? e).isSome = true ∧ (bnd 0 lo).1 ∧ (bnd len hi).1 ∧ 0 ≤ (bnd 0 lo).2 ∧ (bnd 0 lo).2 ≤ (bnd len hi).2 ∧ (bnd len hi).2 ≤ len ∧ ((bnd 0 lo).2 < len ∨ (bnd 0 lo).2 = 0), .osl r w (off + (bnd 0 lo).2.toNat) ((bnd len hi).2.toNat - (bnd 0 lo).2.toNat)⟩
  | .sl e, .nils => ⟨(P.info? e).isSome = true ∧ (bnd 0 lo).1 ∧ (bnd 0 hi).1 ∧ (bnd 0 lo).2 = 0 ∧ (bnd 0 hi).2 = 0, .nils⟩
  | .str, .str s =>
    ⟨(bnd 0 lo).1 ∧ (bnd s.size hi).1 ∧ 0 ≤ (bnd 0 lo).2 ∧ (bnd 0 lo).2 ≤ (bnd s.size hi).2 ∧ (bnd s.size hi).2 ≤ s.size, .str (s.extract (bnd 0 lo).2.toNat (bnd s.size hi).2.toNat)⟩
  | _, _ => .no

section
variable {P : Program} {W : World} {D : Nat → Nat → Prop} {β : Nat → Option Nat}

theorem vUn_ok {op : UnOp} {v : Value} {x : AV} (hx : Rep W D β v x) (hc : (vUn op x).c) : ∃ u, (Op.unary op v).run P W = .ok u W ∧ Rep W D β u (vUn op x).v := by
  unfold vUn at hc ⊢
  split at hc
  · obtain rfl := rep_bool hx
    exact ⟨_, rfl, .data _ _ (.bool ..)⟩
  · obtain rfl := rep_int hx
    exact ⟨_, rfl, .data _ _ (.int ..)⟩
  · exact hc.elim

theorem vConv_ok {src dst : Nat} {v : Value} {x : AV} (hx : Rep W D β v x) (hc : (vConv P src dst x).c) : ∃ u, (convert src dst v).run P W = .ok u W ∧ Rep W D β u (vConv P src dst x).v := by
  unfold vConv at hc ⊢
  split at hc
  · rename_i k k' n ht
    obtain rfl := rep_int hx
    obtain ⟨d, hd⟩ := Option.isSome_iff_exists.1 hc
    have hu := tyOf_int ht
    refine ⟨.int k (k.wrap n), ?_, .data _ _ (.int ..)⟩
    simp [convert, run_underlying hd, run_underlying hu, Conv.intToInt]
  · rename_i s ht
    obtain rfl := rep_str hx
    obtain ⟨d, hd⟩ := Option.isSome_iff_exists.1 hc
    have hu := tyOf_str ht
    refine ⟨.string s, ?_, .data _ _ (.str ..)⟩
    cases d <;> simp [convert, run_underlying hd, run_underlying hu]
  · exact hc.elim

theorem tup_inv {v : Value} {xs : List AV} (h : Rep W D β v (.tup xs)) : ∃ vs : Array Value, v = .tuple vs ∧ vs.size = xs.length ∧ ∀ (i : Nat) (y : AV), xs[i]? = some y → ∃ u, vs[i]? = some u ∧ Rep W D β u y := by
  cases h with
  | data _ _ h => cases h
  | tup vs _ u hl hu hr => exact ⟨vs, rfl, hl, fun i y hy => ⟨u i, hu i y hy, hr i y hy⟩⟩
theorem agg_inv {v : Value} {xs : List AV} (h : Rep W D β v (.agg xs)) : ∃ vs : Array Value, v = .agg vs ∧ vs.size = xs.length ∧ ∀ (i : Nat) (y : AV), xs[i]? = some y → ∃ u, vs[i]? = some u ∧ u.oneCell' = true ∧ Rep W D β u y := by
  cases h with
  | data _ _ h => cases h
  | agg vs _ u hl hu ho hr => exact ⟨vs, rfl, hl, fun i y hy => ⟨u i, hu i y hy, ho i y hy, hr i y hy⟩⟩

theorem vExtract_ok {v : Value} {x : AV} {i : Nat} (hx : Rep W D β v x) (hc : (vExtract x i).c) : ∃ u, (Instr.extract v i).run P W = .ok u W ∧ Rep W D β u (vExtract x i).v := by
  unfold vExtract at hc ⊢
  split at hc
  · obtain ⟨vs, rfl, _, h⟩ := tup_inv hx
    obtain ⟨u, h1, h2⟩ := h i _ (nth_some hc)
    exact ⟨u, by simp [Instr.extract, h1], h2⟩
  · exact hc.elim

theorem vFieldV_ok {s f : Nat} {v : Value} {x : AV} (hx : Rep W D β v x) (hc : (vFieldV P s x f).c) : ∃ u, (Instr.field s v f).run P W = .ok u W ∧ Rep W D β u (vFieldV P s x f).v := by
  unfold vFieldV at hc ⊢
  split at hc
  · rename_i off ft cs hf
    unfold fld at hf
    split at hf <;> try cases hf
    rename_i fs hu
    cases hfs : fs[f]? with
    | none => simp [hfs] at hf
    | some fl =>
      simp only [hfs, Option.map_some, Option.some.injEq, Prod.mk.injEq] at hf
      obtain ⟨rfl, rfl⟩ := hf
      obtain ⟨vs, rfl, hl, h⟩ := agg_inv hx
      have hne : tyOf P fl.type ≠ .other := fun e => by simp [e, OpR.no] at hc
      have hag := run_isAgg W hne
      obtain ⟨d0, hd0⟩ := tyOf_some hne
      have hsz := run_sizeOf hd0 W
      cases ht : tyOf P fl.type
      case other => exact absurd ht hne
      case agg =>
        simp only [ht] at hc ⊢
        refine ⟨.agg (vs.extract fl.offset (fl.offset + P.cellsOf fl.type)), ?_, .agg _ _ (fun i => vs.getD (fl.offset + i) undef) (by simp; omega) (fun i y hy => ?_) (fun i y hy => ?_) (fun i y hy => ?_)⟩
        · simp [Instr.field, run_underlying hu, hfs, asAgg, part, hag, ht, hsz]
        all_goals
          have hi : i < P.cellsOf fl.type := by
            have := (List.getElem?_eq_some_iff.1 hy).1
            rw [List.length_take] at this; omega
          rw [List.getElem?_take, if_pos hi, List.getElem?_drop] at hy
          obtain ⟨u, h1, h2, h3⟩ := h _ _ hy
          have hlt : fl.offset + i < vs.size := (Array.getElem?_eq_some_iff.1 h1).1
        · rw [Array.getElem?_extract, if_pos (by omega)]
          simp [h1]
        · simp [h1, h2]
        · simp [h1, h3]
      all_goals
        simp only [ht] at hc ⊢
        obtain ⟨u, h1, h2, h3⟩ := h _ _ (nth_some hc)
        exact ⟨u, by simp [Instr.field, run_underlying hu, hfs, asAgg, part, hag, ht, h1], h3⟩
  · exact hc.elim

theorem vLen_ok {st : List Root} {t ty : Nat} {v : Value} {x : AV} (hs : ∀ r R, st[r]? = some R → RootOk W D β r R) (hx : Rep W D β v x) (hc : (vLen P st t x).c) : ∃ u, (Builtin.len_ #[t] ty #[v]).run P W = .ok u W ∧ Rep W D β u (vLen P st t x).v := by
  unfold vLen at hc ⊢
  split at hc
  · rename_i e τ w xs ht
    have hu := tyOf_sl ht
    cases hx with
    | data _ _ h =>
    refine ⟨.int .i64 xs.length, ?_, .data _ _ (.int ..)⟩
    cases h <;> simp [Builtin.len_, run_underlying hu, goInt]
  · rename_i e r w off len ht
    have hu := tyOf_sl ht
    cases hx with
    | data _ _ h => cases h
    | osl _ _ _ _ _ h =>
    refine ⟨.int .i64 len, ?_, .data _ _ (.int ..)⟩
    rcases h with ⟨_, rfl, _, rfl⟩ | ⟨g, cap, t', cur, _, rfl, _⟩ <;> simp [Builtin.len_, run_underlying hu, goInt]
  · rename_i e ht
    have hu := tyOf_sl ht
    cases hx with
    | data _ _ h =>
    cases h
    exact ⟨.int .i64 0, by simp [Builtin.len_, run_underlying hu, goInt], .data _ _ (.int ..)⟩
  · rename_i s ht
    obtain rfl := rep_str hx
    exact ⟨.int .i64 s.size, by simp [Builtin.len_, run_underlying (tyOf_str ht), goInt], .data _ _ (.int ..)⟩
  · rename_i k e r ht
    have hu := tyOf_mp ht
    cases hr : st[r]? with
    | none => simp [hr, OpR.no] at hc
    | some R =>
      cases R with
      | mp kv =>
        obtain ⟨g, es, clk, h1, h2, h3, h4⟩ := hs r _ hr
        cases hx with
        | data _ _ h => cases h
        | map _ g' hg =>
          obtain rfl : g = g' := by rw [hg] at h1; injection h1 with h1; exact h1.symm
          refine ⟨.int .i64 kv.length, ?_, .data _ _ (.int ..)⟩
          simp [Builtin.len_, run_underlying hu, goInt, getObj, Sem.run, h2, h3]
      | gone => simp [hr, OpR.no] at hc
      | row t w xs => simp [hr, OpR.no] at hc
      | box t cs => simp [hr, OpR.no] at hc
  · exact hc.elim

theorem vIndex_ok {t : Nat} {v vi : Value} {x i : AV} (hx : Rep W D β v x) (hi : Rep W D β vi i) (hc : (vIndex P t x i).c) : ∃ u, (Instr.index t v vi).run P W = .ok u W ∧ Rep W D β u (vIndex P t x i).v := by
  unfold vIndex at hc ⊢
  split at hc
  · rename_i s k n ht
    obtain rfl := rep_str hx
    obtain rfl := rep_int hi
    refine ⟨_, ?_, .data _ _ (.int ..)⟩
    rw [run_index_string W t s k n (tyOf_str ht), dif_pos hc]
    have hlt : n.toNat < s.size := by omega
    have h2 : n.toNat < s.data.toList.length := by rw [Array.length_toList]; exact hlt
    rw [List.getD_eq_getElem?_getD, List.getElem?_eq_getElem h2]
    rfl
  · exact hc.elim
end

/-! ### Cuts -/
section
variable {P : Program} {W : World} {D : Nat → Nat → Prop} {β : Nat → Option Nat}
def RepO (W : World) (D : Nat → Nat → Prop) (β : Nat → Option Nat) : Option Value → Option AV → Prop
  | none, none => True
  | some v, some x => Rep W D β v x
  | _, _ => False
theorem bnd_inv {d : Nat} {v : Option Value} {x : Option AV} (h : RepO W D β v x) (hc : (bnd d x).1) : (v = none ∧ (bnd d x).2 = d) ∨ ∃ k, v = some (.int k (bnd d x).2) := by
  cases v <;> cases x <;> simp only [RepO] at h
  · exact .inl ⟨rfl, rfl⟩
  · rename_i v x
    cases x <;> simp only [bnd] at hc <;> try exact hc.elim
    obtain rfl := rep_int h
    exact .inr ⟨_, rfl⟩

theorem run_bounds {len cap : Nat} {isS : Bool} {lo hi : Option Value} {xl xh : Option AV} (hl : RepO W D β lo xl) (hh : RepO W D β hi xh) (cl : (bnd 0 xl).1) (ch : (bnd len xh).1)
    (h0 : 0 ≤ (bnd 0 xl).2) (h1 : (bnd 0 xl).2 ≤ (bnd len xh).2) (h2 : (bnd len xh).2 ≤ cap) :
    (Instr.sliceBounds isS len cap lo hi none).run P W = .ok ((bnd 0 xl).2.toNat, (bnd len xh).2.toNat, cap) W := by
  generalize hL : (bnd 0 xl).2 = L at *
  generalize hH : (bnd len xh).2 = H at *
  have hx : (H.toNat : Int) = H := Int.toNat_of_nonneg (by omega)
  have eL := bnd_inv hl cl
  have eH := bnd_inv hh ch
  rw [hL] at eL
  rw [hH] at eH
  rcases eL with ⟨rfl, eL⟩ | ⟨k, rfl⟩ <;> rcases eH with ⟨rfl, eH⟩ | ⟨k', rfl⟩
  · subst eL; subst eH; simp [Instr.sliceBounds]
  · subst eL
    have h00 : 0 ≤ H := by omega
    clear h1 h0 hL
    have e := run_sliceBound (P := P) W k' H cap (if isS = true then .sliceAcap else .sliceAlen) h00 h2
    simp [Instr.sliceBounds, e]
  · subst eH; simp [Instr.sliceBounds, run_sliceBound, h0, h1]
  · simp [Instr.sliceBounds, run_sliceBound, h0, h1, h2, hx, (by omega : 0 ≤ H)]

theorem sl_inv {v : Value} {τ w : Nat} {xs : List AV} (h : Rep W D β v (.sl τ w xs)) : ∃ A cap, v = .slice A xs.length cap ∧ xs.length ≤ cap ∧ (xs = [] ∨ ∃ (a : Addr) (u : Nat → Nat → Value), A = some a ∧ a.spot = none ∧ D τ a.block ∧ xs.length ≤ maxLen ∧
    (∀ (i : Nat) (x : AV), xs[i]? = some x → x.cells.length = w) ∧ (∀ (i : Nat) (x : AV) (j : Nat) (y : AV), xs[i]? = some x → x.cells[j]? = some y → W.cell? ⟨a.block, a.off + (i * w + j), none⟩ = some (u i j)) ∧
    (∀ (i : Nat) (x : AV) (j : Nat) (y : AV), xs[i]? = some x → x.cells[j]? = some y → RepD W D (u i j) y)) := by
  cases h with
  | data _ _ hd =>
    cases hd with
    | sl0 A cap => exact ⟨A, cap, rfl, Nat.zero_le _, .inl rfl⟩
    | sl a cap τ w xs u hs hD hcap hm hw hu2 hr => exact ⟨_, cap, rfl, hcap, .inr ⟨a, u, rfl, hs, hD, hm, hw, hu2, hr⟩⟩

theorem vSlice_ok {t : Nat} {v : Value} {x : AV} {lo hi : Option Value} {xl xh : Option AV} (hx : Rep W D β v x) (hl : RepO W D β lo xl) (hh : RepO W D β hi xh) (hc : (vSlice P t x xl xh).c) :
    ∃ u, (Instr.sliceAt t v lo hi none).run P W = .ok u W ∧ Rep W D β u (vSlice P t x xl xh).v := by
  unfold vSlice at hc ⊢
  split at hc
  · rename_i e τ w xs ht
    obtain ⟨rfl, he, cl, ch, h0, h1, h2⟩ := hc
    have hu := tyOf_sl ht
    obtain ⟨A, cap, rfl, hcap, hor⟩ := sl_inv hx
    have hb := run_bounds (P := P) (isS := true) (len := xs.length) (cap := cap) hl hh cl ch h0 h1 (by omega)
    refine ⟨.slice (if cap = (bnd 0 xl).2.toNat then A else A.map (·.add ((bnd 0 xl).2.toNat * P.cellsOf e))) ((bnd xs.length xh).2.toNat - (bnd 0 xl).2.toNat) (cap - (bnd 0 xl).2.toNat), ?_, ?_⟩
    · simp [Instr.sliceAt, Instr.slice, run_underlying hu, hb, run_sizeOf' he]
    · generalize (bnd 0 xl).2 = L at *
      generalize (bnd xs.length xh).2 = H at *
      have hlen : ((xs.take H.toNat).drop L.toNat).length = H.toNat - L.toNat := by rw [List.length_drop, List.length_take]; omega
      rcases hor with rfl | ⟨a, u, rfl, hs, hD, hm, hw, hu2, hr⟩
      · simp only [List.take_nil, List.drop_nil]
        have : H.toNat - L.toNat = 0 := by simp at h2; omega
        rw [this]
        exact .data _ _ (.sl0 ..)
      · by_cases hz : H.toNat - L.toNat = 0
        · have : (xs.take H.toNat).drop L.toNat = [] := List.eq_nil_of_length_eq_zero (by omega)
          rw [this, hz]
          exact .data _ _ (.sl0 ..)
        · have hcl : ¬ cap = L.toNat := by omega
          rw [if_neg hcl, ← hlen]
          have ha : a.add (L.toNat * P.cellsOf e) = ⟨a.block, a.off + L.toNat * P.cellsOf e, none⟩ := by
            cases a; simp only at hs; subst hs; exact add_none ..
          simp only [Option.map_some]
          rw [ha]
          have conv : ∀ (i : Nat) (y : AV), ((xs.take H.toNat).drop L.toNat)[i]? = some y → xs[L.toNat + i]? = some y := by
            intro i y hy
            rw [List.getElem?_drop, List.getElem?_take] at hy
            split at hy
            · exact hy
            · cases hy
          refine .data _ _ (.sl _ _ τ (P.cellsOf e) _ (fun i j => u (L.toNat + i) j) rfl hD (by rw [hlen]; omega) (by rw [hlen]; omega) (fun i x hx => hw _ _ (conv i x hx)) (fun i x j y hx hy => ?_) (fun i x j y hx hy => hr _ _ j y (conv i x hx) hy))
          have := hu2 _ _ j y (conv i x hx) hy
          simpa [Nat.add_mul, Nat.add_assoc] using this
  · rename_i e r w off len ht
    obtain ⟨rfl, he, cl, ch, h0, h1, h2, h3⟩ := hc
    have hu := tyOf_sl ht
    cases hx with
    | data _ _ hd => cases hd
    | osl _ _ _ _ _ ho =>
    obtain ⟨A, cap, rfl, hcap⟩ : ∃ A cap, v = .slice A len cap ∧ len ≤ cap := by
      rcases ho with ⟨_, rfl, _, rfl⟩ | ⟨g, cap, t', cur, _, rfl, _, _, _, hlc⟩
      · exact ⟨none, 0, rfl, Nat.le_refl _⟩
      · exact ⟨_, cap, rfl, hlc⟩
    have hb := run_bounds (P := P) (isS := true) (len := len) (cap := cap) hl hh cl ch h0 h1 (by omega)
    refine ⟨.slice (if cap = (bnd 0 xl).2.toNat then A else A.map (·.add ((bnd 0 xl).2.toNat * P.cellsOf e))) ((bnd len xh).2.toNat - (bnd 0 xl).2.toNat) (cap - (bnd 0 xl).2.toNat), ?_, ?_⟩
    · simp [Instr.sliceAt, Instr.slice, run_underlying hu, hb, run_sizeOf' he]
    · show Rep W D β _ (.osl r (P.cellsOf e) (off + (bnd 0 xl).2.toNat) ((bnd len xh).2.toNat - (bnd 0 xl).2.toNat))
      generalize (bnd 0 xl).2 = L at *
      generalize (bnd len xh).2 = H at *
      refine .osl _ _ _ _ _ ?_
      rcases ho with ⟨h4, h5, rfl, rfl⟩ | ⟨g, cap', t', cur, h4, h5, h6, h7, h8, h9⟩
      · injection h5 with h5 h5' h5''
        subst h5
        have hL : L.toNat = 0 := by omega
        have hH : H.toNat = 0 := by omega
        refine .inl ⟨h4, ?_, by omega, by omega⟩
        simp [hL, hH]
        omega
      · injection h5 with h5 h5' h5''
        subst h5 h5''
        by_cases hL : L.toNat = 0
        · rw [hL]
          refine .inr ⟨g, cap, t', cur, h4, ?_, h6, by simpa using h7, by omega, by omega⟩
          by_cases hc0 : cap = 0
          · simp [hc0]
          · simp [hc0, Addr.add]
        · have hne : ¬ cap = L.toNat := by omega
          refine .inr ⟨g, cap - L.toNat, t', cur, h4, ?_, h6, ?_, by omega, by omega⟩
          · simp [hne, add_none, Nat.add_mul]
          · rw [h7]; congr 1; omega
  · rename_i e ht
    obtain ⟨he, cl, ch, h0, h1⟩ := hc
    have hu := tyOf_sl ht
    cases hx with
    | data _ _ hd =>
    cases hd
    have hb := run_bounds (P := P) (isS := true) (len := 0) (cap := 0) hl hh cl ch (by omega) (by omega) (by omega)
    rw [h0, h1] at hb
    refine ⟨.slice none 0 0, ?_, .data _ _ .nils⟩
    simp [Instr.sliceAt, Instr.slice, run_underlying hu, hb, run_sizeOf' he]
  · rename_i s ht
    obtain ⟨cl, ch, h0, h1, h2⟩ := hc
    have hu := tyOf_str ht
    obtain rfl := rep_str hx
    have hb := run_bounds (P := P) (isS := false) (len := s.size) (cap := s.size) hl hh cl ch h0 h1 h2
    refine ⟨_, ?_, .data _ _ (.str ..)⟩
    simp [Instr.sliceAt, Instr.slice, run_underlying hu, hb]
  · exact hc.elim

/-! ### Maps -/
/-- The entry of a key: the first that is this key. -/
def kvFind (kv : List (AV × AV)) (k : AV) : Option (Option AV) :=
  match kv with
  | [] => some none
  | (k', v) :: kv => match cellEq k k' with
    | some b => match kvFind kv k with
      | some r => some (bif b then some v else r)
      | none => none
    | none => none
end

def zeroAV (P : Program) (t : Nat) : AV :=
  match (P.info? t).bind (·.zero) with
  | some v => ofValue v
  | none => .undef
def keyOk (P : Program) (t : Nat) (k : AV) : Bool :=
  match tyOf P t, k with
  | .int _, .int _ _ => true
  | .bool, .bool _ => true
  | .str, .str _ => true
  | _, _ => false
def vLookup (P : Program) (st : List Root) (t : Nat) (x k : AV) (ok : Bool) : OpR :=
  match tyOf P t, x with
  | .mp kt et, .map r => match st[r]? with
    | some (.mp kv) => match kvFind kv k with
      | some o => ⟨keyOk P kt k = true ∧ ((P.info? et).bind (·.zero)).isSome = true, bif ok then .tup [o.getD (zeroAV P et), .bool o.isSome] else o.getD (zeroAV P et)⟩
      | none => .no
    | _ => .no
  | _, _ => .no

section
variable {P : Program} {W : World} {D : Nat → Nat → Prop} {β : Nat → Option Nat}
theorem sameNow_ok {kt : Nat} {d : TypeDesc} (hd : P.underlying kt = some d) {v v' : Value} {k k' : AV} {b : Bool} (hk : keyOk P kt k = true) (hv : RepD W D v k) (hv' : RepD W D v' k') (h : cellEq k k' = some b) : Instr.sameNow d v v' = some b := by
  unfold keyOk at hk
  split at hk <;> try cases hk
  · rename_i k0 k1 n ht
    have := tyOf_int ht
    rw [hd] at this; injection this with this; subst this
    cases k' <;> simp only [cellEq] at h <;> try cases h
    split at h <;> try cases h
    rename_i hkk
    subst hkk
    cases hv; cases hv'
    simp [Instr.sameNow]
    rfl
  · rename_i n ht
    have := tyOf_bool ht
    rw [hd] at this; injection this with this; subst this
    cases k' <;> simp only [cellEq] at h <;> try cases h
    cases hv; cases hv'
    simp [Instr.sameNow]
  · rename_i n ht
    have := tyOf_str ht
    rw [hd] at this; injection this with this; subst this
    cases k' <;> simp only [cellEq] at h <;> try cases h
    cases hv; cases hv'
    simp only [Instr.sameNow]
    rw [beq_toListBytes, toList_eq_iff]

theorem findNow_ok {kt : Nat} {d : TypeDesc} (hd : P.underlying kt = some d) {v : Value} {k : AV} (hk : keyOk P kt k = true) (hv : RepD W D v k) : ∀ (kv : List (AV × AV)) (es : List MapEntry) (i : Nat) (o : Option AV), es.length = kv.length →
    (∀ (i : Nat) (k x : AV), kv[i]? = some (k, x) → ∃ e, es[i]? = some e ∧ RepD W D e.key k ∧ RepD W D e.val x) → kvFind kv k = some o →
    (o = none ∧ Instr.findNow d v es i = some none) ∨ ∃ x j e, o = some x ∧ Instr.findNow d v es i = some (some (i + j, e.val)) ∧ es[j]? = some e ∧ RepD W D e.val x
  | [], [], i, o, _, _, h => by
    simp only [kvFind, Option.some.injEq] at h
    exact .inl ⟨h.symm, rfl⟩
  | [], _ :: _, _, _, hl, _, _ => by simp at hl
  | _ :: _, [], _, _, hl, _, _ => by simp at hl
  | (k', x) :: kv, e :: es, i, o, hl, hr, h => by
    simp only [kvFind] at h
    cases hc : cellEq k k' with
    | none => simp [hc] at h
    | some b =>
      cases hf : kvFind kv k with
      | none => simp [hc, hf] at h
      | some r =>
        simp only [hc, hf, Option.some.injEq] at h
        obtain ⟨e0, he0, h1, h2⟩ := hr 0 k' x rfl
        simp only [List.getElem?_cons_zero, Option.some.injEq] at he0
        subst he0
        have hs := sameNow_ok hd hk hv h1 hc
        cases b
        · simp only [cond_false] at h
          subst h
          have ih := findNow_ok hd hk hv kv es (i + 1) r (by simpa using hl) (fun j k x hj => by simpa using hr (j + 1) k x (by simpa using hj)) hf
          rcases ih with ⟨h3, h4⟩ | ⟨y, j, e1, h3, h4, h5, h6⟩
          · exact .inl ⟨h3, by simp only [Instr.findNow, hs]; exact h4⟩
          · exact .inr ⟨y, j + 1, e1, h3, by simp only [Instr.findNow, hs]; rw [h4]; congr 3; omega, by simpa using h5, h6⟩
        · simp only [cond_true] at h
          exact .inr ⟨x, 0, e, h.symm, by simp only [Instr.findNow, hs]; rfl, rfl, h2⟩

theorem run_checkKeyN {kt : Nat} {v : Value} {k : AV} (em : Bool) (n : Nat) (hk : keyOk P kt k = true) : (Instr.checkKey em (n + 1) kt v).run P W = .ok () W := by
  unfold keyOk at hk
  split at hk <;> try cases hk
  · rename_i ht
    simp [Instr.checkKey, run_underlying (tyOf_int ht)]
  · rename_i ht
    simp [Instr.checkKey, run_underlying (tyOf_bool ht)]
  · rename_i ht
    simp [Instr.checkKey, run_underlying (tyOf_str ht)]
theorem run_checkKey {kt : Nat} {v : Value} {k : AV} (em : Bool) (hk : keyOk P kt k = true) : (Instr.checkKey em 10000 kt v).run P W = .ok () W := run_checkKeyN em 9999 hk

theorem keyOk_under {kt : Nat} {k : AV} (hk : keyOk P kt k = true) : ∃ d, P.underlying kt = some d := by
  unfold keyOk at hk
  split at hk <;> try cases hk
  · rename_i ht; exact ⟨_, tyOf_int ht⟩
  · rename_i ht; exact ⟨_, tyOf_bool ht⟩
  · rename_i ht; exact ⟨_, tyOf_str ht⟩

theorem rep_data {v : Value} {k : AV} (h : Rep W D β v k) (hk : (∃ a n, k = .int a n) ∨ (∃ b, k = .bool b) ∨ ∃ s, k = .str s) : RepD W D v k := by
  rcases hk with ⟨a, n, rfl⟩ | ⟨b, rfl⟩ | ⟨s, rfl⟩ <;> (cases h with | data _ _ h => exact h)
theorem keyOk_kind {kt : Nat} {k : AV} (hk : keyOk P kt k = true) : (∃ a n, k = .int a n) ∨ (∃ b, k = .bool b) ∨ ∃ s, k = .str s := by
  unfold keyOk at hk
  split at hk <;> try cases hk
  · exact .inl ⟨_, _, rfl⟩
  · exact .inr (.inl ⟨_, rfl⟩)
  · exact .inr (.inr ⟨_, rfl⟩)

theorem run_zero {t : Nat} (h : ((P.info? t).bind (·.zero)).isSome = true) : ∃ v, (zeroValue t).run P W = .ok v W ∧ Rep W D β v (zeroAV P t) ∧ (P.info? t).bind (·.zero) = some v := by
  obtain ⟨v, hv⟩ := Option.isSome_iff_exists.1 h
  cases hi : P.info? t with
  | none => simp [hi] at hv
  | some i =>
    have hz : i.zero = some v := by simpa [hi] using hv
    exact ⟨v, by simp [zeroValue, typeInfo, hi, hz], by rw [zeroAV, hv]; exact rep_ofValue .., by simp [hz]⟩

theorem vLookup_ok {st : List Root} {t : Nat} {v vk : Value} {x k : AV} {ok : Bool} (hs : ∀ r R, st[r]? = some R → RootOk W D β r R) (hx : Rep W D β v x) (hk : Rep W D β vk k) (hc : (vLookup P st t x k ok).c) :
    ∃ u, (Instr.lookup t v vk ok).run P W = .ok u W ∧ Rep W D β u (vLookup P st t x k ok).v := by
  unfold vLookup at hc ⊢
  split at hc
  · rename_i kt et r ht
    have hu := tyOf_mp ht
    cases hr : st[r]? with
    | none => simp [hr, OpR.no] at hc
    | some R =>
      cases R with
      | mp kv =>
        simp only [hr] at hc ⊢
        cases hf : kvFind kv k with
        | none => simp [hf, OpR.no] at hc
        | some o =>
          simp only [hf] at hc ⊢
          obtain ⟨hko, hz⟩ := hc
          obtain ⟨g, es, clk, h1, h2, h3, h4⟩ := hs r _ hr
          cases hx with
          | data _ _ h => cases h
          | map _ g' hg =>
            obtain rfl : g = g' := by rw [hg] at h1; injection h1 with h1; exact h1.symm
            obtain ⟨d, hd⟩ := keyOk_under hko
            have hkd := rep_data hk (keyOk_kind hko)
            have hck := run_checkKey (P := P) (W := W) (v := vk) es.isEmpty hko
            have hfn := findNow_ok (W := W) (D := D) hd hko hkd kv es.toList 0 o (by simpa using h3) (fun i k x hi => by obtain ⟨e, he, h⟩ := h4 i k x hi; exact ⟨e, by simpa using he, h⟩) hf
            obtain ⟨z, hz1, hz2, _⟩ := run_zero (W := W) (D := D) (β := β) hz
            have hgo : (getObj g).run P W = .ok (.map es clk) W := by simp [getObj, Sem.run, h2]
            have two : ∀ (u : Value) (a : AV) (b : Bool), Rep W D β u a → Rep W D β (.tuple #[u, .bool b]) (.tup [a, .bool b]) := by
              intro u a b hu
              refine .tup _ _ (fun i => if i = 0 then u else .bool b) rfl (fun i y hy => ?_) (fun i y hy => ?_)
              · match i, hy with
                | 0, _ => rfl
                | 1, _ => rfl
              · match i, hy with
                | 0, hy => simp at hy; subst hy; exact hu
                | 1, hy => simp at hy; subst hy; exact .data _ _ (.bool ..)
            rcases hfn with ⟨rfl, hfn⟩ | ⟨y, j, e, rfl, hfn, hej, hey⟩
            · cases ok
              · exact ⟨z, by simp [Instr.lookup, run_underlying hu, hgo, hck, Instr.findKey, run_underlying hd, hfn, hz1], hz2⟩
              · exact ⟨.tuple #[z, .bool false], by simp [Instr.lookup, run_underlying hu, hgo, hck, Instr.findKey, run_underlying hd, hfn, hz1], two _ _ _ hz2⟩
            · cases ok
              · exact ⟨e.val, by simp [Instr.lookup, run_underlying hu, hgo, hck, Instr.findKey, run_underlying hd, hfn], .data _ _ hey⟩
              · exact ⟨.tuple #[e.val, .bool true], by simp [Instr.lookup, run_underlying hu, hgo, hck, Instr.findKey, run_underlying hd, hfn], two _ _ _ (.data _ _ hey)⟩
      | gone => simp [hr, OpR.no] at hc
      | row t w xs => simp [hr, OpR.no] at hc
      | box t cs => simp [hr, OpR.no] at hc
  · exact hc.elim
end

end Go.Ve
