/- The engine, part 20: the values of operations in rewriting steps. No condition. -/
import Derived.Test.YtfeaokelfbjcdaaE19
namespace Go.Ve
open Go.RowKit
set_option linter.unusedVariables false
set_option linter.unusedSimpArgs false

section
variable {P : Program} {n k : Nat} {T : List (Nat × Fsem)} {K : Env → Prop} {tm : List (Nat × AV)} {st : List Root} {e : Env}

/-! ### Loads -/
@[go_sem] theorem behindR_box {w i j t : Nat} {cs : List AV} : behindR w i j (some (.box t cs)) = (i = 0, cs.drop j) := rfl
@[go_sem] theorem behindR_row {w i j t w' : Nat} {xs : List AV} : behindR w i j (some (.row t w' xs)) = (w = w' ∧ i < xs.length, (nth xs i).cells.drop j) := rfl
def ldvR (c : Nat) (ty : Ty) (cs : List AV) : OpR :=
  match ty with
  | .agg => ⟨c ≤ cs.length, .agg (cs.take c)⟩
  | .other => .no
  | _ => ⟨0 < cs.length, cs.headD .undef⟩
@[go_sem] theorem ldv_eq {t : Nat} {cs : List AV} : ldv P t cs = ldvR (P.cellsOf t) (tyOf P t) cs := rfl
@[go_sem] theorem ldvR_agg {c : Nat} {cs : List AV} : ldvR c .agg cs = ⟨c ≤ cs.length, .agg (cs.take c)⟩ := rfl
@[go_sem] theorem ldvR_int {c : Nat} {k : IntKind} {cs : List AV} : ldvR c (.int k) cs = ⟨0 < cs.length, cs.headD .undef⟩ := rfl
@[go_sem] theorem ldvR_bool {c : Nat} {cs : List AV} : ldvR c .bool cs = ⟨0 < cs.length, cs.headD .undef⟩ := rfl
@[go_sem] theorem ldvR_str {c : Nat} {cs : List AV} : ldvR c .str cs = ⟨0 < cs.length, cs.headD .undef⟩ := rfl
@[go_sem] theorem ldvR_ptr {c : Nat} {cs : List AV} : ldvR c .ptr cs = ⟨0 < cs.length, cs.headD .undef⟩ := rfl
@[go_sem] theorem ldvR_sl {c t : Nat} {cs : List AV} : ldvR c (.sl t) cs = ⟨0 < cs.length, cs.headD .undef⟩ := rfl
@[go_sem] theorem ldvR_mp {c t u : Nat} {cs : List AV} : ldvR c (.mp t u) cs = ⟨0 < cs.length, cs.headD .undef⟩ := rfl
@[go_sem] theorem ldvR_ifc {c : Nat} {cs : List AV} : ldvR c .ifc cs = ⟨0 < cs.length, cs.headD .undef⟩ := rfl
@[go_sem] theorem ldvR_fn {c : Nat} {cs : List AV} : ldvR c .fn cs = ⟨0 < cs.length, cs.headD .undef⟩ := rfl

def vFieldR (c : Nat → Nat) (o : Option (Nat × Nat)) (x : AV) : OpR :=
  match o with
  | some (off, ft) => match x with
    | .dptr τ cs => ⟨c ft ≠ 0, .dptr τ (cs.drop off)⟩
    | .ptr r w i j => ⟨c ft ≠ 0, .ptr r w i (j + off)⟩
    | _ => .no
  | none => .no
@[go_sem] theorem vField_eq {s f : Nat} {x : AV} : vField P s f x = vFieldR P.cellsOf (fld P s f) x := rfl
@[go_sem] theorem vFieldR_dptr {c : Nat → Nat} {off ft τ : Nat} {cs : List AV} : vFieldR c (some (off, ft)) (.dptr τ cs) = ⟨c ft ≠ 0, .dptr τ (cs.drop off)⟩ := rfl
@[go_sem] theorem vFieldR_ptr {c : Nat → Nat} {off ft r w i j : Nat} : vFieldR c (some (off, ft)) (.ptr r w i j) = ⟨c ft ≠ 0, .ptr r w i (j + off)⟩ := rfl

def vIndexAddrR (P : Program) (ty : Ty) (x i : AV) : OpR :=
  match ty, x, i with
  | .sl e, .sl τ w xs, .int _ n => ⟨P.cellsOf e = w ∧ (P.info? e).isSome = true ∧ 0 ≤ n ∧ n < xs.length, .dptr τ (nth xs n.toNat).cells⟩
  | .sl e, .osl r w off len, .int _ n => ⟨P.cellsOf e = w ∧ (P.info? e).isSome = true ∧ 0 ≤ n ∧ n < len, .ptr r w (off + n.toNat) 0⟩
  | _, _, _ => .no
@[go_sem] theorem vIndexAddr_eq {t : Nat} {x i : AV} : vIndexAddr P t x i = vIndexAddrR P (tyOf P t) x i := rfl
@[go_sem] theorem vIndexAddrR_sl {e τ w : Nat} {xs : List AV} {k : IntKind} {n : Int} : vIndexAddrR P (.sl e) (.sl τ w xs) (.int k n) = ⟨P.cellsOf e = w ∧ (P.info? e).isSome = true ∧ 0 ≤ n ∧ n < xs.length, .dptr τ (nth xs n.toNat).cells⟩ := rfl
@[go_sem] theorem vIndexAddrR_osl {e r w off len : Nat} {k : IntKind} {n : Int} : vIndexAddrR P (.sl e) (.osl r w off len) (.int k n) = ⟨P.cellsOf e = w ∧ (P.info? e).isSome = true ∧ 0 ≤ n ∧ n < len, .ptr r w (off + n.toNat) 0⟩ := rfl

/-! ### Whole numbers, strings, bools -/
@[go_sem] theorem vbin_add {t : Nat} {k k' : IntKind} {a b : Int} : vbin P .add t (.int k a) (.int k' b) = ⟨k = k' ∧ True, .int k (k.wrap (a + b))⟩ := rfl
@[go_sem] theorem vbin_sub {t : Nat} {k k' : IntKind} {a b : Int} : vbin P .sub t (.int k a) (.int k' b) = ⟨k = k' ∧ True, .int k (k.wrap (a - b))⟩ := rfl
@[go_sem] theorem vbin_mul {t : Nat} {k k' : IntKind} {a b : Int} : vbin P .mul t (.int k a) (.int k' b) = ⟨k = k' ∧ True, .int k (k.wrap (a * b))⟩ := rfl
@[go_sem] theorem vbin_quo {t : Nat} {k k' : IntKind} {a b : Int} : vbin P .quo t (.int k a) (.int k' b) = ⟨k = k' ∧ b ≠ 0, .int k (k.wrap (a.tdiv b))⟩ := rfl
@[go_sem] theorem vbin_rem {t : Nat} {k k' : IntKind} {a b : Int} : vbin P .rem t (.int k a) (.int k' b) = ⟨k = k' ∧ b ≠ 0, .int k (a.tmod b)⟩ := rfl
@[go_sem] theorem vbin_and {t : Nat} {k k' : IntKind} {a b : Int} : vbin P .and t (.int k a) (.int k' b) = ⟨k = k' ∧ True, .int k (vbits .and k a b)⟩ := rfl
@[go_sem] theorem vbin_or {t : Nat} {k k' : IntKind} {a b : Int} : vbin P .or t (.int k a) (.int k' b) = ⟨k = k' ∧ True, .int k (vbits .or k a b)⟩ := rfl
@[go_sem] theorem vbin_xor {t : Nat} {k k' : IntKind} {a b : Int} : vbin P .xor t (.int k a) (.int k' b) = ⟨k = k' ∧ True, .int k (vbits .xor k a b)⟩ := rfl
@[go_sem] theorem vbin_eql {t : Nat} {k k' : IntKind} {a b : Int} : vbin P .eql t (.int k a) (.int k' b) = ⟨k = k' ∧ True, .bool (decide (a = b))⟩ := rfl
@[go_sem] theorem vbin_neq {t : Nat} {k k' : IntKind} {a b : Int} : vbin P .neq t (.int k a) (.int k' b) = ⟨k = k' ∧ True, .bool (!decide (a = b))⟩ := rfl
@[go_sem] theorem vbin_lss {t : Nat} {k k' : IntKind} {a b : Int} : vbin P .lss t (.int k a) (.int k' b) = ⟨k = k' ∧ True, .bool (decide (a < b))⟩ := rfl
@[go_sem] theorem vbin_leq {t : Nat} {k k' : IntKind} {a b : Int} : vbin P .leq t (.int k a) (.int k' b) = ⟨k = k' ∧ True, .bool (decide (a ≤ b))⟩ := rfl
@[go_sem] theorem vbin_gtr {t : Nat} {k k' : IntKind} {a b : Int} : vbin P .gtr t (.int k a) (.int k' b) = ⟨k = k' ∧ True, .bool (decide (b < a))⟩ := rfl
@[go_sem] theorem vbin_geq {t : Nat} {k k' : IntKind} {a b : Int} : vbin P .geq t (.int k a) (.int k' b) = ⟨k = k' ∧ True, .bool (decide (b ≤ a))⟩ := rfl
@[go_sem] theorem vbin_shl {t : Nat} {k k' : IntKind} {a b : Int} : vbin P .shl t (.int k a) (.int k' b) = ⟨0 ≤ b, .int k (k.wrap (a * 2 ^ min b.toNat k.bits))⟩ := rfl
@[go_sem] theorem vbin_shr {t : Nat} {k k' : IntKind} {a b : Int} : vbin P .shr t (.int k a) (.int k' b) = ⟨0 ≤ b, .int k (a.fdiv (2 ^ min b.toNat k.bits))⟩ := rfl
@[go_sem] theorem vbin_sadd {t : Nat} {a b : ByteArray} : vbin P .add t (.str a) (.str b) = ⟨a.size + b.size ≤ 9223372036854775807, .str (a ++ b)⟩ := rfl
@[go_sem] theorem vbin_seql {t : Nat} {a b : ByteArray} : vbin P .eql t (.str a) (.str b) = ⟨True, .bool (decide (a = b))⟩ := rfl
@[go_sem] theorem vbin_sneq {t : Nat} {a b : ByteArray} : vbin P .neq t (.str a) (.str b) = ⟨True, .bool (!decide (a = b))⟩ := rfl
@[go_sem] theorem vbin_slss {t : Nat} {a b : ByteArray} : vbin P .lss t (.str a) (.str b) = ⟨True, .bool (Op.bytesLess a.toList b.toList)⟩ := rfl
@[go_sem] theorem vbin_sgtr {t : Nat} {a b : ByteArray} : vbin P .gtr t (.str a) (.str b) = ⟨True, .bool (!(Op.bytesLess a.toList b.toList || a.toList == b.toList))⟩ := rfl
@[go_sem] theorem vbin_sleq {t : Nat} {a b : ByteArray} : vbin P .leq t (.str a) (.str b) = ⟨True, .bool (Op.bytesLess a.toList b.toList || a.toList == b.toList)⟩ := rfl
@[go_sem] theorem vbin_sgeq {t : Nat} {a b : ByteArray} : vbin P .geq t (.str a) (.str b) = ⟨True, .bool (!Op.bytesLess a.toList b.toList)⟩ := rfl
@[go_sem] theorem vbin_beql {t : Nat} {a b : Bool} : vbin P .eql t (.bool a) (.bool b) = ⟨tyOf P t = .bool, .bool (a == b)⟩ := rfl
@[go_sem] theorem vbin_bneq {t : Nat} {a b : Bool} : vbin P .neq t (.bool a) (.bool b) = ⟨tyOf P t = .bool, .bool (!(a == b))⟩ := rfl
/-- Structs, compared cell by cell. -/
def vAgg (c : Bool) (neg : Bool) (o : Option Bool) : OpR :=
  match o with
  | some b => ⟨c = true, .bool (neg != b)⟩
  | none => .no
@[go_sem] theorem vbin_aeql {t : Nat} {xs ys : List AV} : vbin P .eql t (.agg xs) (.agg ys) = vAgg (eqOk P t (xs.map AV.kind)) false (cellsEq xs ys) := by
  simp only [vbin, vAgg]
  cases cellsEq xs ys with
  | none => rfl
  | some b => simp
@[go_sem] theorem vbin_aneq {t : Nat} {xs ys : List AV} : vbin P .neq t (.agg xs) (.agg ys) = vAgg (eqOk P t (xs.map AV.kind)) true (cellsEq xs ys) := by
  simp only [vbin, vAgg]
  cases cellsEq xs ys with
  | none => rfl
  | some b => simp
@[go_sem] theorem vAgg_eql {c b : Bool} : vAgg c false (some b) = ⟨c = true, .bool b⟩ := by simp [vAgg]
@[go_sem] theorem vAgg_neq {c b : Bool} : vAgg c true (some b) = ⟨c = true, .bool (!b)⟩ := by simp [vAgg]
def andO (a b : Option Bool) : Option Bool :=
  match a, b with
  | some a, some b => some (a && b)
  | _, _ => none
@[go_sem] theorem andO_some {a b : Bool} : andO (some a) (some b) = some (a && b) := rfl
@[go_sem] theorem cellsEq_nil : cellsEq [] [] = some true := rfl
@[go_sem] theorem cellsEq_cons {x y : AV} {xs ys : List AV} : cellsEq (x :: xs) (y :: ys) = andO (cellEq x y) (cellsEq xs ys) := by
  simp only [cellsEq, andO]
  cases cellEq x y <;> cases cellsEq xs ys <;> rfl
@[go_sem] theorem cellEq_int {k : IntKind} {a b : Int} : cellEq (.int k a) (.int k b) = some (decide (a = b)) := by simp [cellEq]
@[go_sem] theorem cellEq_bool {a b : Bool} : cellEq (.bool a) (.bool b) = some (a == b) := rfl
@[go_sem] theorem cellEq_str {a b : ByteArray} : cellEq (.str a) (.str b) = some (decide (a = b)) := rfl
@[go_sem] theorem kind_int {k : IntKind} {a : Int} : (AV.int k a).kind = 0 := rfl
@[go_sem] theorem kind_bool {a : Bool} : (AV.bool a).kind = 1 := rfl
@[go_sem] theorem kind_str {a : ByteArray} : (AV.str a).kind = 2 := rfl
@[go_sem] theorem vbin_peql {t : Nat} : vbin P .eql t .nilp .nilp = ⟨tyOf P t = .ptr, .bool true⟩ := rfl
@[go_sem] theorem vbin_pneq {t : Nat} : vbin P .neq t .nilp .nilp = ⟨tyOf P t = .ptr, .bool false⟩ := rfl
@[go_sem] theorem vbin_deql {t τ : Nat} {cs : List AV} : vbin P .eql t (.dptr τ cs) .nilp = ⟨tyOf P t = .ptr, .bool false⟩ := rfl
@[go_sem] theorem vbin_dneq {t τ : Nat} {cs : List AV} : vbin P .neq t (.dptr τ cs) .nilp = ⟨tyOf P t = .ptr, .bool true⟩ := rfl
@[go_sem] theorem vbin_oeql {t r w i j : Nat} : vbin P .eql t (.ptr r w i j) .nilp = ⟨tyOf P t = .ptr, .bool false⟩ := rfl
@[go_sem] theorem vbin_oneq {t r w i j : Nat} : vbin P .neq t (.ptr r w i j) .nilp = ⟨tyOf P t = .ptr, .bool true⟩ := rfl

@[go_sem] theorem vUn_not {b : Bool} : vUn .not (.bool b) = ⟨True, .bool (!b)⟩ := rfl
@[go_sem] theorem vUn_neg {k : IntKind} {m : Int} : vUn .neg (.int k m) = ⟨True, .int k (k.wrap (0 - m))⟩ := rfl
def vConvR (c : Bool) (ty : Ty) (x : AV) : OpR :=
  match ty, x with
  | .int k, .int _ n => ⟨c = true, .int k (k.wrap n)⟩
  | .str, .str s => ⟨c = true, .str s⟩
  | _, _ => .no
@[go_sem] theorem vConv_eq {s d : Nat} {x : AV} : vConv P s d x = vConvR (P.underlying s).isSome (tyOf P d) x := rfl
@[go_sem] theorem vConvR_int {c : Bool} {k k' : IntKind} {m : Int} : vConvR c (.int k) (.int k' m) = ⟨c = true, .int k (k.wrap m)⟩ := rfl
@[go_sem] theorem vConvR_str {c : Bool} {s : ByteArray} : vConvR c .str (.str s) = ⟨c = true, .str s⟩ := rfl
@[go_sem] theorem vExtract_tup {xs : List AV} {i : Nat} : vExtract (.tup xs) i = ⟨i < xs.length, nth xs i⟩ := rfl
def vFieldVR (c : Nat → Nat) (tt : Nat → Ty) (o : Option (Nat × Nat)) (x : AV) : OpR :=
  match o, x with
  | some (off, ft), .agg cs => match tt ft with
    | .agg => ⟨off + c ft ≤ cs.length, .agg ((cs.drop off).take (c ft))⟩
    | .other => .no
    | _ => ⟨off < cs.length, nth cs off⟩
  | _, _ => .no
@[go_sem] theorem vFieldV_eq {s f : Nat} {x : AV} : vFieldV P s x f = vFieldVR P.cellsOf (tyOf P) (fld P s f) x := rfl
def vFieldVT (c : Nat) (ty : Ty) (off : Nat) (cs : List AV) : OpR :=
  match ty with
  | .agg => ⟨off + c ≤ cs.length, .agg ((cs.drop off).take c)⟩
  | .other => .no
  | _ => ⟨off < cs.length, nth cs off⟩
@[go_sem] theorem vFieldVR_agg {c : Nat → Nat} {tt : Nat → Ty} {off ft : Nat} {cs : List AV} : vFieldVR c tt (some (off, ft)) (.agg cs) = vFieldVT (c ft) (tt ft) off cs := rfl
@[go_sem] theorem vFieldVT_agg {c off : Nat} {cs : List AV} : vFieldVT c .agg off cs = ⟨off + c ≤ cs.length, .agg ((cs.drop off).take c)⟩ := rfl
@[go_sem] theorem vFieldVT_int {c off : Nat} {k : IntKind} {cs : List AV} : vFieldVT c (.int k) off cs = ⟨off < cs.length, nth cs off⟩ := rfl
@[go_sem] theorem vFieldVT_bool {c off : Nat} {cs : List AV} : vFieldVT c .bool off cs = ⟨off < cs.length, nth cs off⟩ := rfl
@[go_sem] theorem vFieldVT_str {c off : Nat} {cs : List AV} : vFieldVT c .str off cs = ⟨off < cs.length, nth cs off⟩ := rfl
@[go_sem] theorem vFieldVT_ptr {c off : Nat} {cs : List AV} : vFieldVT c .ptr off cs = ⟨off < cs.length, nth cs off⟩ := rfl
@[go_sem] theorem vFieldVT_sl {c off t : Nat} {cs : List AV} : vFieldVT c (.sl t) off cs = ⟨off < cs.length, nth cs off⟩ := rfl
@[go_sem] theorem vFieldVT_mp {c off t u : Nat} {cs : List AV} : vFieldVT c (.mp t u) off cs = ⟨off < cs.length, nth cs off⟩ := rfl
@[go_sem] theorem vFieldVT_ifc {c off : Nat} {cs : List AV} : vFieldVT c .ifc off cs = ⟨off < cs.length, nth cs off⟩ := rfl
@[go_sem] theorem nth_cons_zero {x : AV} {xs : List AV} : nth (x :: xs) 0 = x := rfl
@[go_sem] theorem nth_cons_succ {x : AV} {xs : List AV} {i : Nat} : nth (x :: xs) (i + 1) = nth xs i := by simp [nth]
theorem nth_map {α : Type} [Inhabited α] (f : α → AV) {l : List α} {i : Nat} (h : i < l.length) : nth (l.map f) i = f l[i]! := by
  simp [nth, List.getD_eq_getElem?_getD, h]

def vLenR (st : List Root) (ty : Ty) (x : AV) : OpR :=
  match ty, x with
  | .sl _, .sl _ _ xs => ⟨True, .int .i64 xs.length⟩
  | .sl _, .osl _ _ _ len => ⟨True, .int .i64 len⟩
  | .sl _, .nils => ⟨True, .int .i64 0⟩
  | .str, .str s => ⟨True, .int .i64 s.size⟩
  | .mp _ _, .map r => match st[r]? with
    | some (.mp kv) => ⟨True, .int .i64 kv.length⟩
    | _ => .no
  | _, _ => .no
@[go_sem] theorem vLen_eq {t : Nat} {x : AV} : vLen P st t x = vLenR st (tyOf P t) x := rfl
@[go_sem] theorem vLenR_sl {t τ w : Nat} {xs : List AV} : vLenR st (.sl t) (.sl τ w xs) = ⟨True, .int .i64 xs.length⟩ := rfl
@[go_sem] theorem vLenR_osl {t r w off len : Nat} : vLenR st (.sl t) (.osl r w off len) = ⟨True, .int .i64 len⟩ := rfl
@[go_sem] theorem vLenR_nils {t : Nat} : vLenR st (.sl t) .nils = ⟨True, .int .i64 0⟩ := rfl
@[go_sem] theorem vLenR_str {s : ByteArray} : vLenR st .str (.str s) = ⟨True, .int .i64 s.size⟩ := rfl
def lenMp (R : Option Root) : OpR :=
  match R with
  | some (.mp kv) => ⟨True, .int .i64 kv.length⟩
  | _ => .no
@[go_sem] theorem vLenR_map {t u r : Nat} : vLenR st (.mp t u) (.map r) = lenMp (st[r]?) := rfl
@[go_sem] theorem lenMp_mp {kv : List (AV × AV)} : lenMp (some (.mp kv)) = ⟨True, .int .i64 kv.length⟩ := rfl
@[go_sem] theorem lenFact_sl {τ w : Nat} {xs : List AV} : lenFact (.sl τ w xs) = (xs.length ≤ maxLen) := rfl
@[go_sem] theorem lenFact_osl {r w off len : Nat} : lenFact (.osl r w off len) = (len ≤ maxLen) := rfl
@[go_sem] theorem lenFact_nils : lenFact .nils = True := rfl
@[go_sem] theorem lenFact_str {s : ByteArray} : lenFact (.str s) = True := rfl
@[go_sem] theorem lenFact_map {r : Nat} : lenFact (.map r) = True := rfl
def vIndexR (ty : Ty) (x i : AV) : OpR :=
  match ty, x, i with
  | .str, .str s, .int _ n => ⟨0 ≤ n ∧ n < s.size, .int .u8 ((s.data.toList.getD n.toNat 0).toNat)⟩
  | _, _, _ => .no
@[go_sem] theorem vIndex_eq {t : Nat} {x i : AV} : vIndex P t x i = vIndexR (tyOf P t) x i := rfl
@[go_sem] theorem vIndexR_str {s : ByteArray} {k : IntKind} {m : Int} : vIndexR .str (.str s) (.int k m) = ⟨0 ≤ m ∧ m < s.size, .int .u8 ((s.data.toList.getD m.toNat 0).toNat)⟩ := rfl
@[go_sem] theorem vNil_ptr {r w i j : Nat} : vNil (.ptr r w i j) = ⟨True, .ptr r w i j⟩ := rfl
@[go_sem] theorem vNil_dptr {τ : Nat} {cs : List AV} : vNil (.dptr τ cs) = ⟨True, .dptr τ cs⟩ := rfl
@[go_sem] theorem vNil_fn {f : FuncId} {cs : List AV} : vNil (.fn f cs) = ⟨True, .fn f cs⟩ := rfl
@[go_sem] theorem vMax_int {k k' : IntKind} {a b : Int} : vMax (.int k a) (.int k' b) = ⟨True, .int k (if b > a then b else a)⟩ := rfl
@[go_sem] theorem vMin_int {k k' : IntKind} {a b : Int} : vMin (.int k a) (.int k' b) = ⟨True, .int k (if b < a then b else a)⟩ := rfl

@[go_sem] theorem bnd_none {d : Nat} : bnd d none = (True, (d : Int)) := rfl
@[go_sem] theorem bnd_int {d : Nat} {k : IntKind} {m : Int} : bnd d (some (.int k m)) = (True, m) := rfl
def vSliceR (P : Program) (ty : Ty) (x : AV) (lo hi : Option AV) : OpR :=
  match ty, x with
  | .sl e, .sl τ w xs =>
    ⟨P.cellsOf e = w ∧ (P.info? e).isSome = true ∧ (bnd 0 lo).1 ∧ (bnd xs.length hi).1 ∧ 0 ≤ (bnd 0 lo).2 ∧ (bnd 0 lo).2 ≤ (bnd xs.length hi).2 ∧ (bnd xs.length hi).2 ≤ xs.length, .sl τ w ((xs.take (bnd xs.length hi).2.toNat).drop (bnd 0 lo).2.toNat)⟩
  | .sl e, .osl r w off len =>
    ⟨P.cellsOf e = w ∧ (P.info? e).isSome = true ∧ (bnd 0 lo).1 ∧ (bnd len hi).1 ∧ 0 ≤ (bnd 0 lo).2 ∧ (bnd 0 lo).2 ≤ (bnd len hi).2 ∧ (bnd len hi).2 ≤ len ∧ ((bnd 0 lo).2 < len ∨ (bnd 0 lo).2 = 0), .osl r w (off + (bnd 0 lo).2.toNat) ((bnd len hi).2.toNat - (bnd 0 lo).2.toNat)⟩
  | .sl e, .nils => ⟨(P.info? e).isSome = true ∧ (bnd 0 lo).1 ∧ (bnd 0 hi).1 ∧ (bnd 0 lo).2 = 0 ∧ (bnd 0 hi).2 = 0, .nils⟩
  | .str, .str s =>
    ⟨(bnd 0 lo).1 ∧ (bnd s.size hi).1 ∧ 0 ≤ (bnd 0 lo).2 ∧ (bnd 0 lo).2 ≤ (bnd s.size hi).2 ∧ (bnd s.size hi).2 ≤ s.size, .str (s.extract (bnd 0 lo).2.toNat (bnd s.size hi).2.toNat)⟩
  | _, _ => .no
@[go_sem] theorem vSlice_eq {t : Nat} {x : AV} {lo hi : Option AV} : vSlice P t x lo hi = vSliceR P (tyOf P t) x lo hi := rfl
@[go_sem] theorem vSliceR_sl {e τ w : Nat} {xs : List AV} {lo hi : Option AV} : vSliceR P (.sl e) (.sl τ w xs) lo hi = ⟨P.cellsOf e = w ∧ (P.info? e).isSome = true ∧ (bnd 0 lo).1 ∧ (bnd xs.length hi).1 ∧ 0 ≤ (bnd 0 lo).2 ∧ (bnd 0 lo).2 ≤ (bnd xs.length hi).2 ∧ (bnd xs.length hi).2 ≤ xs.length, .sl τ w ((xs.take (bnd xs.length hi).2.toNat).drop (bnd 0 lo).2.toNat)⟩ := rfl
@[go_sem] theorem vSliceR_osl {e r w off len : Nat} {lo hi : Option AV} : vSliceR P (.sl e) (.osl r w off len) lo hi = ⟨P.cellsOf e = w ∧ (P.info? e).isSome = true ∧ (bnd 0 lo).1 ∧ (bnd len hi).1 ∧ 0 ≤ (bnd 0 lo).2 ∧ (bnd 0 lo).2 ≤ (bnd len hi).2 ∧ (bnd len hi).2 ≤ len ∧ ((bnd 0 lo).2 < len ∨ (bnd 0 lo).2 = 0), .osl r w (off + (bnd 0 lo).2.toNat) ((bnd len hi).2.toNat - (bnd 0 lo).2.toNat)⟩ := rfl
@[go_sem] theorem vSliceR_nils {e : Nat} {lo hi : Option AV} : vSliceR P (.sl e) .nils lo hi = ⟨(P.info? e).isSome = true ∧ (bnd 0 lo).1 ∧ (bnd 0 hi).1 ∧ (bnd 0 lo).2 = 0 ∧ (bnd 0 hi).2 = 0, .nils⟩ := rfl
@[go_sem] theorem vSliceR_str {s : ByteArray} {lo hi : Option AV} : vSliceR P .str (.str s) lo hi = ⟨(bnd 0 lo).1 ∧ (bnd s.size hi).1 ∧ 0 ≤ (bnd 0 lo).2 ∧ (bnd 0 lo).2 ≤ (bnd s.size hi).2 ∧ (bnd s.size hi).2 ≤ s.size, .str (s.extract (bnd 0 lo).2.toNat (bnd s.size hi).2.toNat)⟩ := rfl

/-! ### Calls -/
def tcallR (n : Nat) (st : List Root) (args : List AV) (s : Option Fsem) : Option OpR :=
  match s with
  | some s => some ⟨(∀ x ∈ args, (cv st (posOf []) x).1) ∧ (s n (args.map fun x => (cv st (posOf []) x).2)).c, (s n (args.map fun x => (cv st (posOf []) x).2)).v⟩
  | none => none
@[go_sem] theorem tcall_fn {f : FuncId} {caps args : List AV} : tcall n T st (.fn f caps) args = tcallR n st (args ++ caps) (tget T f) := by
  simp only [tcall, tcallR]
  cases tget T f <;> rfl
@[go_sem] theorem tcallR_some {args : List AV} {s : Fsem} : tcallR n st args (some s) = some ⟨(∀ x ∈ args, (cv st (posOf []) x).1) ∧ (s n (args.map fun x => (cv st (posOf []) x).2)).c, (s n (args.map fun x => (cv st (posOf []) x).2)).v⟩ := rfl
@[go_sem] theorem tcallR_none {args : List AV} : tcallR n st args none = none := rfl
@[go_sem] theorem tget_nil {f : Nat} : tget [] f = none := rfl
@[go_sem] theorem tget_cons {f g : Nat} {s : Fsem} {T : List (Nat × Fsem)} : tget ((g, s) :: T) f = if g = f then some s else tget T f := by
  simp only [tget]
  by_cases h : g = f
  · subst h; simp
  · have : Nat.beq g f = false := by rw [← Bool.not_eq_true]; exact fun h' => h (Nat.eq_of_beq_eq_true h')
    simp [this, h]
@[go_sem] theorem cv_int {pos : Nat → Option Nat} {k : IntKind} {m : Int} : cv st pos (.int k m) = (True, .int k m) := rfl
@[go_sem] theorem cv_bool {pos : Nat → Option Nat} {b : Bool} : cv st pos (.bool b) = (True, .bool b) := rfl
@[go_sem] theorem cv_str {pos : Nat → Option Nat} {s : ByteArray} : cv st pos (.str s) = (True, .str s) := rfl
@[go_sem] theorem cv_nilp {pos : Nat → Option Nat} : cv st pos .nilp = (True, .nilp) := rfl
@[go_sem] theorem cv_nils {pos : Nat → Option Nat} : cv st pos .nils = (True, .nils) := rfl
@[go_sem] theorem cv_nili {pos : Nat → Option Nat} : cv st pos .nili = (True, .nili) := rfl
@[go_sem] theorem cv_sl {pos : Nat → Option Nat} {τ w : Nat} {xs : List AV} : cv st pos (.sl τ w xs) = (True, .sl τ w xs) := rfl
@[go_sem] theorem cv_dptr {pos : Nat → Option Nat} {τ : Nat} {xs : List AV} : cv st pos (.dptr τ xs) = (True, .dptr τ xs) := rfl
end
end Go.Ve
