/- The texts of this claim, part PD 1: the engine that runs the code on values, the data, the contracts. No condition. -/
import Derived.WalkKit
import Derived.Below
import Derived.Orders
import Derived.Laws.CopyRow
import Derived.Laws.MakeOwn
import Derived.Laws.AppendOwn
import Derived.Laws.StructEq
import Derived.Laws.Pointers
import Derived.Laws.Slices
import Derived.Laws.Small
import Derived.Laws.Strings2
import Derived.Laws.Shifts
import Derived.Laws.IdiomMaps
namespace Go.Ve
open Go.RowKit
/-- A value as the engine sees it. 'sl', 'dptr': data that is read (region τ; w cells an element); 'osl', 'ptr', 'map': into a root of the environment; 'gd g v': v, where g is true. -/
inductive AV where
  | undef
  | int (k : IntKind) (n : Int)
  | bool (b : Bool)
  | str (s : ByteArray)
  | nilp
  | nils
  | nili
  | ifc (t : TypeId) (v : AV)
  | sl (τ w : Nat) (xs : List AV)
  | dptr (τ : Nat) (cs : List AV)
  | osl (r w off len : Nat)
  | ptr (r w i j : Nat)
  | map (r : Nat)
  | fn (f : FuncId) (caps : List AV)
  | agg (cs : List AV)
  | tup (vs : List AV)
  | gd (g : Bool) (v : AV)
  | leaf
  deriving Inhabited
/-- A plain value: an integer, a truth value, a string. -/
def isLeaf : Value → Bool
  | .int _ _ | .bool _ | .string _ => true
  | _ => false
def AV.cells : AV → List AV
  | .agg cs => cs
  | v => [v]
/-- What an environment owns: a row of elements (block of type t, w cells an element), a box (one variable), a map, or nothing any more. -/
inductive Root where
  | gone
  | row (t w : Nat) (xs : List AV)
  | box (t : Nat) (cs : List AV)
  | mp (kv : List (AV × AV))
  deriving Inhabited
structure Env where
  tm : List (Nat × AV)
  st : List Root
def tv : List (Nat × AV) → Nat → AV
  | [], _ => .undef
  | (j, v) :: l, i => if j = i then v else tv l i
/-- Data: read only, every block of region τ within D τ. -/
inductive RepD (W : World) (D : Nat → Nat → Prop) : Value → AV → Prop
  | int (k : IntKind) (n : Int) : RepD W D (.int k n) (.int k n)
  | bool (b : Bool) : RepD W D (.bool b) (.bool b)
  | str (s : ByteArray) : RepD W D (.string s) (.str s)
  | nilp : RepD W D (.pointer none) .nilp
  | nils : RepD W D (.slice none 0 0) .nils
  | nili : RepD W D .nilIface .nili
  | undef (v : Value) (h : v.oneCell' = true) : RepD W D v .undef
  | leaf (v : Value) (h : isLeaf v = true) : RepD W D v .leaf
  | ifc (t : TypeId) (u : Value) (v : AV) (h : RepD W D u v) : RepD W D (.iface t u) (.ifc t v)
  | sl0 (A : Option Addr) (cap τ w : Nat) : RepD W D (.slice A 0 cap) (.sl τ w [])
  | sl (a : Addr) (cap τ w : Nat) (xs : List AV) (u : Nat → Nat → Value) (hs : a.spot = none) (hD : D τ a.block) (hc : xs.length ≤ cap) (hm : xs.length ≤ maxLen)
      (hw : ∀ (i : Nat) (x : AV), xs[i]? = some x → x.cells.length = w)
      (hu : ∀ (i : Nat) (x : AV) (j : Nat) (y : AV), xs[i]? = some x → x.cells[j]? = some y → W.cell? ⟨a.block, a.off + (i * w + j), none⟩ = some (u i j))
      (hr : ∀ (i : Nat) (x : AV) (j : Nat) (y : AV), xs[i]? = some x → x.cells[j]? = some y → RepD W D (u i j) y) : RepD W D (.slice (some a) xs.length cap) (.sl τ w xs)
  | dptr (a : Addr) (τ : Nat) (cs : List AV) (u : Nat → Value) (hs : a.spot = none) (hD : D τ a.block)
      (hu : ∀ (j : Nat) (y : AV), cs[j]? = some y → W.cell? ⟨a.block, a.off + j, none⟩ = some (u j)) (hr : ∀ (j : Nat) (y : AV), cs[j]? = some y → RepD W D (u j) y) : RepD W D (.pointer (some a)) (.dptr τ cs)
  | fn (f : FuncId) (vs : Array Value) (caps : List AV) (u : Nat → Value) (hl : vs.size = caps.length)
      (hu : ∀ (i : Nat) (y : AV), caps[i]? = some y → vs[i]? = some (u i)) (hr : ∀ (i : Nat) (y : AV), caps[i]? = some y → RepD W D (u i) y) : RepD W D (.func (.func f) #[] vs) (.fn f caps)
/-- The header of a slice into root r. -/
def OslOk (W : World) (β : Nat → Option Nat) (v : Value) (r w off len : Nat) : Prop :=
  (β r = none ∧ v = .slice none 0 0 ∧ off = 0 ∧ len = 0) ∨
  ∃ (g cap t : Nat) (cur : Array Value), β r = some g ∧ v = .slice (some ⟨g, off * w, none⟩) len cap ∧ W.heap[g]? = some (.cells cur t (0, 0)) ∧ cur.size = (off + cap) * w ∧ off + cap ≤ maxLen ∧ len ≤ cap
/-- A value of whatever kind. -/
inductive Rep (W : World) (D : Nat → Nat → Prop) (β : Nat → Option Nat) : Value → AV → Prop
  | undef (v : Value) : Rep W D β v .undef
  | data (v : Value) (x : AV) (h : RepD W D v x) : Rep W D β v x
  | osl (v : Value) (r w off len : Nat) (h : OslOk W β v r w off len) : Rep W D β v (.osl r w off len)
  | ptr (r w i j g : Nat) (h : β r = some g) : Rep W D β (.pointer (some ⟨g, i * w + j, none⟩)) (.ptr r w i j)
  | map (r g : Nat) (h : β r = some g) : Rep W D β (.map (some g)) (.map r)
  | fn (f : FuncId) (vs : Array Value) (caps : List AV) (u : Nat → Value) (hl : vs.size = caps.length)
      (hu : ∀ (i : Nat) (y : AV), caps[i]? = some y → vs[i]? = some (u i)) (hr : ∀ (i : Nat) (y : AV), caps[i]? = some y → Rep W D β (u i) y) : Rep W D β (.func (.func f) #[] vs) (.fn f caps)
  | agg (vs : Array Value) (cs : List AV) (u : Nat → Value) (hl : vs.size = cs.length)
      (hu : ∀ (i : Nat) (y : AV), cs[i]? = some y → vs[i]? = some (u i)) (ho : ∀ (i : Nat) (y : AV), cs[i]? = some y → (u i).oneCell' = true) (hr : ∀ (i : Nat) (y : AV), cs[i]? = some y → Rep W D β (u i) y) : Rep W D β (.agg vs) (.agg cs)
  | tup (vs : Array Value) (cs : List AV) (u : Nat → Value) (hl : vs.size = cs.length)
      (hu : ∀ (i : Nat) (y : AV), cs[i]? = some y → vs[i]? = some (u i)) (hr : ∀ (i : Nat) (y : AV), cs[i]? = some y → Rep W D β (u i) y) : Rep W D β (.tuple vs) (.tup cs)
  | gd (g : Bool) (v : Value) (x : AV) (h : g = true → Rep W D β v x) (h' : g = false → v = Go.undef) : Rep W D β v (.gd g x)
def RootOk (W : World) (D : Nat → Nat → Prop) (β : Nat → Option Nat) (r : Nat) : Root → Prop
  | .gone => True
  | .row t w xs => (β r = none ∧ xs = []) ∨ ∃ (g : Nat) (cur : Array Value), β r = some g ∧ W.heap[g]? = some (.cells cur t (0, 0)) ∧
      ∀ (i : Nat) (x : AV), xs[i]? = some x → x.cells.length = w ∧ ∀ (j : Nat) (y : AV), x.cells[j]? = some y → ∃ u, cur[i * w + j]? = some u ∧ RepD W D u y
  | .box t cs => ∃ (g : Nat) (cur : Array Value), β r = some g ∧ W.heap[g]? = some (.cells cur t (0, 0)) ∧ cur.size = cs.length ∧
      ∀ (j : Nat) (y : AV), cs[j]? = some y → ∃ u, cur[j]? = some u ∧ u.oneCell' = true ∧ Rep W D β u y
  | .mp kv => ∃ (g : Nat) (es : Array MapEntry) (clk : Nat), β r = some g ∧ W.heap[g]? = some (.map es clk) ∧ es.size = kv.length ∧
      ∀ (i : Nat) (k x : AV), kv[i]? = some (k, x) → ∃ e, es[i]? = some e ∧ RepD W D e.key k ∧ RepD W D e.val x
def Live (st : List Root) (r : Nat) : Prop := ∃ R, st[r]? = some R ∧ R ≠ .gone
structure StoreOk (W : World) (D : Nat → Nat → Prop) (β : Nat → Option Nat) (st : List Root) : Prop where
  root : ∀ r R, st[r]? = some R → RootOk W D β r R
  inj : ∀ r r' g, Live st r → Live st r' → β r = some g → β r' = some g → r = r'
  far : ∀ r g ρ, Live st r → β r = some g → ¬ D ρ g
/-- Every row of cells keeps its type and its size. -/
def Keeps (W W' : World) : Prop := ∀ (b t : Nat) (cur : Array Value) (fr : Nat × Nat), W.heap[b]? = some (.cells cur t fr) → ∃ cur', W'.heap[b]? = some (.cells cur' t fr) ∧ cur'.size = cur.size
theorem Keeps.refl (W : World) : Keeps W W := fun _ _ cur _ h => ⟨cur, h, rfl⟩
theorem Keeps.trans {a b c : World} (h : Keeps a b) (k : Keeps b c) : Keeps a c := fun x t cur fr hc =>
  let ⟨cur', h1, h2⟩ := h x t cur fr hc; let ⟨cur'', h3, h4⟩ := k x t cur' fr h1; ⟨cur'', h3, h4.trans h2⟩
theorem cell_congr {W W' : World} {b : Nat} (h : W'.heap[b]? = W.heap[b]?) (i : Nat) : W'.cell? ⟨b, i, none⟩ = W.cell? ⟨b, i, none⟩ := by
  simp [World.cell?, h]
theorem RepD.mono {W W' : World} {D D' : Nat → Nat → Prop} (h : ∀ ρ b, D ρ b → W'.heap[b]? = W.heap[b]? ∧ D' ρ b) {v : Value} {x : AV} (hx : RepD W D v x) : RepD W' D' v x := by
  induction hx with
  | int => exact .int ..
  | bool => exact .bool ..
  | str => exact .str ..
  | nilp => exact .nilp
  | nils => exact .nils
  | nili => exact .nili
  | undef v h => exact .undef v h
  | leaf v h => exact .leaf v h
  | ifc t u v _ ih => exact .ifc t u v ih
  | sl0 => exact .sl0 ..
  | sl a cap τ w xs u hs hD hc hm hw hu _ ih =>
    exact .sl a cap τ w xs u hs (h _ _ hD).2 hc hm hw (fun i x j y hx hy => by rw [cell_congr (h _ _ hD).1]; exact hu i x j y hx hy) ih
  | dptr a τ cs u hs hD hu _ ih =>
    exact .dptr a τ cs u hs (h _ _ hD).2 (fun j y hy => by rw [cell_congr (h _ _ hD).1]; exact hu j y hy) ih
  | fn f vs caps u hl hu _ ih => exact .fn f vs caps u hl hu ih
theorem RepD.oneCell {W : World} {D : Nat → Nat → Prop} {v : Value} {x : AV} (h : RepD W D v x) : v.oneCell' = true := by
  cases h
  case leaf h => cases v <;> first | rfl | cases h
  all_goals first | rfl | assumption
/-- The step from one memory to another, as far as values go: data stay, cells keep their sizes, the roots that matter keep their blocks. -/
structure Mv (W W' : World) (D D' : Nat → Nat → Prop) (β β' : Nat → Option Nat) (ok : Nat → Prop) : Prop where
  data : ∀ ρ b, D ρ b → W'.heap[b]? = W.heap[b]? ∧ D' ρ b
  keep : Keeps W W'
  same : ∀ r, ok r → β' r = β r
/-- The roots that a value names. -/
inductive Names : AV → Nat → Prop
  | osl (r w off len : Nat) : Names (.osl r w off len) r
  | ptr (r w i j : Nat) : Names (.ptr r w i j) r
  | map (r : Nat) : Names (.map r) r
  | fn (f : FuncId) (caps : List AV) (y : AV) (q : Nat) (hy : y ∈ caps) (h : Names y q) : Names (.fn f caps) q
  | agg (cs : List AV) (y : AV) (q : Nat) (hy : y ∈ cs) (h : Names y q) : Names (.agg cs) q
  | tup (cs : List AV) (y : AV) (q : Nat) (hy : y ∈ cs) (h : Names y q) : Names (.tup cs) q
  | gd (x : AV) (q : Nat) (h : Names x q) : Names (.gd true x) q
theorem OslOk.mv {W W' : World} {D D' : Nat → Nat → Prop} {β β' : Nat → Option Nat} {ok : Nat → Prop} (h : Mv W W' D D' β β' ok) {v : Value} {r w off len : Nat} (hr : ok r) (hx : OslOk W β v r w off len) : OslOk W' β' v r w off len := by
  rcases hx with ⟨h1, h2⟩ | ⟨g, cap, t, cur, h1, h2, h3, h4, h5, h6⟩
  · exact .inl ⟨(h.same r hr).trans h1, h2⟩
  · obtain ⟨cur', k1, k2⟩ := h.keep _ _ _ _ h3
    exact .inr ⟨g, cap, t, cur', (h.same r hr).trans h1, h2, k1, k2.trans h4, h5, h6⟩
theorem Rep.mv {W W' : World} {D D' : Nat → Nat → Prop} {β β' : Nat → Option Nat} {ok : Nat → Prop} (h : Mv W W' D D' β β' ok) {v : Value} {x : AV} (hx : Rep W D β v x) : (∀ q, Names x q → ok q) → Rep W' D' β' v x := by
  induction hx with
  | undef v => exact fun _ => .undef v
  | data v x hd => exact fun _ => .data v x (hd.mono h.data)
  | osl v r w off len ho => exact fun hn => .osl v r w off len (ho.mv h (hn r (.osl ..)))
  | ptr r w i j g hg => exact fun hn => .ptr r w i j g ((h.same r (hn r (.ptr ..))).trans hg)
  | map r g hg => exact fun hn => .map r g ((h.same r (hn r (.map ..))).trans hg)
  | fn f vs caps u hl hu _ ih => exact fun hn => .fn f vs caps u hl hu fun i y hy => ih i y hy fun q hq => hn q (.fn f caps y q (List.mem_of_getElem? hy) hq)
  | agg vs cs u hl hu ho _ ih => exact fun hn => .agg vs cs u hl hu ho fun i y hy => ih i y hy fun q hq => hn q (.agg cs y q (List.mem_of_getElem? hy) hq)
  | tup vs cs u hl hu _ ih => exact fun hn => .tup vs cs u hl hu fun i y hy => ih i y hy fun q hq => hn q (.tup cs y q (List.mem_of_getElem? hy) hq)
  | gd g v x _ h' ih => exact fun hn => .gd g v x (fun hg => ih hg fun q hq => hn q (by subst hg; exact .gd x q hq)) h'
end Go.Ve
namespace Go.Ve
open Go.RowKit
set_option linter.unusedVariables false
set_option linter.unusedSimpArgs false
inductive Ty where
  | int (k : IntKind) | bool | str | ptr | sl (e : Nat) | mp (k e : Nat) | agg | ifc | fn | other
def tyOf (P : Program) (t : Nat) : Ty :=
  match P.underlying t with
  | some (.int k) => .int k
  | some .bool => .bool
  | some .string => .str
  | some (.pointer _) => .ptr
  | some (.slice e) => .sl e
  | some (.map k e) => .mp k e
  | some (.struct _) => .agg
  | some (.interface _) => .ifc
  | some (.func _ _ _) => .fn
  | _ => .other
def fld (P : Program) (s f : Nat) : Option (Nat × Nat) :=
  match P.underlying s with
  | some (.struct fs) => (fs[f]?).map fun x => (x.offset, x.type)
  | _ => none
section
variable {P : Program}
theorem info_of_underlying {t : Nat} {d : TypeDesc} (h : P.underlying t = some d) : ∃ i, P.info? t = some i := by
  unfold Program.underlying at h
  cases hi : P.info? t with
  | none => simp [hi] at h
  | some i => exact ⟨i, rfl⟩
theorem tyOf_some {t : Nat} (h : tyOf P t ≠ .other) : ∃ d, P.underlying t = some d := by
  cases hu : P.underlying t with
  | none => simp [tyOf, hu] at h
  | some d => exact ⟨d, rfl⟩
theorem tyOf_sl {t e : Nat} (h : tyOf P t = .sl e) : P.underlying t = some (.slice e) := by
  unfold tyOf at h
  split at h <;> simp_all
theorem tyOf_mp {t k e : Nat} (h : tyOf P t = .mp k e) : P.underlying t = some (.map k e) := by
  unfold tyOf at h
  split at h <;> simp_all
theorem tyOf_str {t : Nat} (h : tyOf P t = .str) : P.underlying t = some .string := by
  unfold tyOf at h
  split at h <;> simp_all
theorem tyOf_bool {t : Nat} (h : tyOf P t = .bool) : P.underlying t = some .bool := by
  unfold tyOf at h
  split at h <;> simp_all
theorem tyOf_int {t : Nat} {k : IntKind} (h : tyOf P t = .int k) : P.underlying t = some (.int k) := by
  unfold tyOf at h
  split at h <;> simp_all
theorem tyOf_agg {t : Nat} (h : tyOf P t = .agg) : ∃ fs, P.underlying t = some (.struct fs) := by
  unfold tyOf at h
  split at h <;> simp_all
theorem run_sizeOf {t : Nat} {d : TypeDesc} (h : P.underlying t = some d) (W : World) : (sizeOf t).run P W = .ok (P.cellsOf t) W := by
  obtain ⟨i, hi⟩ := info_of_underlying h
  simp [sizeOf, typeInfo, hi, Program.cellsOf]
theorem run_sizeOf' {t : Nat} (h : (P.info? t).isSome = true) (W : World) : (sizeOf t).run P W = .ok (P.cellsOf t) W := by
  obtain ⟨i, hi⟩ := Option.isSome_iff_exists.1 h
  simp [sizeOf, typeInfo, hi, Program.cellsOf]
end
structure OpR where
  c : Prop
  v : AV
def OpR.no : OpR := ⟨False, .undef⟩
def AV.core : AV → AV
  | .gd _ v => v
  | v => v
def AV.gc : AV → Bool
  | .gd g _ => g
  | _ => true
/-- Nothing in it that a word 'gd' guards. -/
theorem Rep.core {W : World} {D : Nat → Nat → Prop} {β : Nat → Option Nat} {v : Value} {x : AV} (h : Rep W D β v x) (hg : x.gc = true) : Rep W D β v x.core := by
  cases x <;> first | exact h | skip
  rename_i g x
  cases h with
  | data _ _ hd => cases hd
  | gd _ _ _ h _ => exact h hg
theorem Names.core {x : AV} {q : Nat} (hg : x.gc = true) (h : Names x.core q) : Names x q := by
  cases x <;> first | exact h | (simp only [AV.gc] at hg; subst hg; exact .gd _ _ h)
def ofCell : Value → AV
  | .int k n => .int k n
  | .bool b => .bool b
  | .string s => .str s
  | .pointer none => .nilp
  | .slice none 0 0 => .nils
  | .nilIface => .nili
  | _ => .undef
def ofValue : Value → AV
  | .agg cs => bif cs.toList.all Value.oneCell' then .agg (cs.toList.map ofCell) else .undef
  | v => ofCell v
theorem rep_ofCell (W : World) (D : Nat → Nat → Prop) (β : Nat → Option Nat) (v : Value) : Rep W D β v (ofCell v) := by
  unfold ofCell
  split
  · exact .data _ _ (.int ..)
  · exact .data _ _ (.bool ..)
  · exact .data _ _ (.str ..)
  · exact .data _ _ .nilp
  · exact .data _ _ .nils
  · exact .data _ _ .nili
  · exact .undef _
theorem names_ofCell {v : Value} {q : Nat} (h : Names (ofCell v) q) : False := by
  unfold ofCell at h
  split at h <;> cases h
theorem names_ofValue {v : Value} {q : Nat} (h : Names (ofValue v) q) : False := by
  unfold ofValue at h
  split at h
  · rename_i cs
    cases hb : cs.toList.all Value.oneCell' <;> simp only [hb, cond_true, cond_false] at h
    · cases h
    cases h with
    | agg cs y q hy h =>
      obtain ⟨u, _, rfl⟩ := List.mem_map.1 hy
      exact names_ofCell h
  · exact names_ofCell h
theorem rep_ofValue (W : World) (D : Nat → Nat → Prop) (β : Nat → Option Nat) (v : Value) : Rep W D β v (ofValue v) := by
  unfold ofValue
  split
  · rename_i cs
    cases hb : cs.toList.all Value.oneCell'
    · exact .undef _
    have key : ∀ (i : Nat) (y : AV), (cs.toList.map ofCell)[i]? = some y → ∃ u, cs[i]? = some u ∧ u.oneCell' = true ∧ y = ofCell u := by
      intro i y hy
      rw [List.getElem?_map] at hy
      cases hc : cs.toList[i]? with
      | none => simp [hc] at hy
      | some u =>
        simp only [hc, Option.map_some, Option.some.injEq] at hy
        exact ⟨u, by simpa using hc, List.all_eq_true.1 hb u (List.mem_of_getElem? hc), hy.symm⟩
    refine .agg cs _ (fun i => cs.getD i undef) (by simp) (fun i y hy => ?_) (fun i y hy => ?_) (fun i y hy => ?_)
    all_goals obtain ⟨u, h1, h2, rfl⟩ := key i y hy
    · simp [h1]
    · simp [h1, h2]
    · simp [h1]
      exact rep_ofCell ..
  · exact rep_ofCell ..
def nth (xs : List AV) (i : Nat) : AV := xs.getD i .undef
/-- From cell off of block g on stand cs. -/
def CellsAt (W : World) (D : Nat → Nat → Prop) (β : Nat → Option Nat) (g off : Nat) (cs : List AV) : Prop :=
  ∀ (k : Nat) (y : AV), cs[k]? = some y → ∃ u, W.cell? ⟨g, off + k, none⟩ = some u ∧ u.oneCell' = true ∧ Rep W D β u y
theorem CellsAt.drop {W : World} {D : Nat → Nat → Prop} {β : Nat → Option Nat} {g off : Nat} {cs : List AV} (h : CellsAt W D β g off cs) (j : Nat) : CellsAt W D β g (off + j) (cs.drop j) := by
  intro k y hy
  rw [List.getElem?_drop] at hy
  obtain ⟨u, h1, h2⟩ := h _ _ hy
  exact ⟨u, by rw [Nat.add_assoc]; exact h1, h2⟩
/-- What lies behind an address: its cells. -/
def Behind (W : World) (D : Nat → Nat → Prop) (β : Nat → Option Nat) (v : Value) (cs : List AV) : Prop :=
  ∃ g off, v = .pointer (some ⟨g, off, none⟩) ∧ CellsAt W D β g off cs
/-- The cells behind a pointer, and when they are known. -/
def behind (st : List Root) : AV → Prop × List AV
  | .dptr _ cs => (True, cs)
  | .ptr r w i j => match st[r]? with
    | some (.box _ cs) => (i = 0, cs.drop j)
    | some (.row _ w' xs) => (w = w' ∧ i < xs.length, (nth xs i).cells.drop j)
    | _ => (False, [])
  | _ => (False, [])
theorem nth_some {xs : List AV} {i : Nat} (h : i < xs.length) : xs[i]? = some (nth xs i) := by
  simp [nth, List.getD_eq_getElem?_getD, List.getElem?_eq_getElem h]
theorem behind_ok {W : World} {D : Nat → Nat → Prop} {β : Nat → Option Nat} {st : List Root} {v : Value} {x : AV} (hs : ∀ r R, st[r]? = some R → RootOk W D β r R) (h : Rep W D β v x) (hc : (behind st x).1) : Behind W D β v (behind st x).2 := by
  cases x <;> simp only [behind] at hc ⊢ <;> try exact hc.elim
  case dptr τ cs =>
    cases h with
    | data _ _ hd =>
      cases hd with
      | dptr a τ cs u hs hD hu hr =>
        refine ⟨a.block, a.off, by cases a; simp_all, fun k y hy => ⟨u k, hu k y hy, (hr k y hy).oneCell, .data _ _ (hr k y hy)⟩⟩
  case ptr r w i j =>
    cases h with
    | data _ _ hd => cases hd
    | ptr _ _ _ _ g hg =>
      cases hr : st[r]? with
      | none => simp [hr] at hc
      | some R =>
        have hR := hs r R hr
        cases R with
        | gone => simp [hr] at hc
        | mp kv => simp [hr] at hc
        | box t cs =>
          simp only [hr] at hc ⊢
          subst hc
          obtain ⟨g', cur, h1, h2, h3, h4⟩ := hR
          obtain rfl : g' = g := by rw [hg] at h1; injection h1 with h1; exact h1.symm
          refine ⟨g', 0 * w + j, rfl, ?_⟩
          rw [Nat.zero_mul, Nat.zero_add]
          intro k y hy
          rw [List.getElem?_drop] at hy
          obtain ⟨u, k1, k2, k3⟩ := h4 _ _ hy
          exact ⟨u, by rw [cell_of_row W g' _ cur t (0, 0) h2]; exact k1, k2, k3⟩
        | row t w' xs =>
          simp only [hr] at hc ⊢
          obtain ⟨rfl, hi⟩ := hc
          rcases hR with ⟨_, rfl⟩ | ⟨g', cur, h1, h2, h3⟩
          · simp at hi
          obtain rfl : g' = g := by rw [hg] at h1; injection h1 with h1; exact h1.symm
          refine ⟨g', i * w + j, rfl, fun k y hy => ?_⟩
          rw [List.getElem?_drop] at hy
          obtain ⟨_, h4⟩ := h3 i _ (nth_some hi)
          obtain ⟨u, k1, k2⟩ := h4 _ _ hy
          exact ⟨u, by rw [cell_of_row W g' _ cur t (0, 0) h2, Nat.add_assoc]; exact k1, k2.oneCell, .data _ _ k2⟩
theorem RepD.noNames {W : World} {D : Nat → Nat → Prop} {v : Value} {x : AV} {q : Nat} (h : RepD W D v x) : ¬ Names x q := by
  induction h with
  | fn f vs caps u hl hu _ ih =>
    intro hn
    cases hn with
    | fn _ _ y _ hy hn =>
      obtain ⟨i, hi⟩ := List.mem_iff_getElem?.1 hy
      exact ih i y hi hn
  | _ => intro hn; cases hn
theorem behind_names {W : World} {D : Nat → Nat → Prop} {β : Nat → Option Nat} {st : List Root} {v : Value} {x : AV} (hs : ∀ r R, st[r]? = some R → RootOk W D β r R) (hb : ∀ (r t : Nat) (cs : List AV) (y : AV) (q : Nat), st[r]? = some (Root.box t cs) → y ∈ cs → Names y q → q < st.length) (h : Rep W D β v x) (hc : (behind st x).1) {y : AV} {q : Nat} (hy : y ∈ (behind st x).2) (hn : Names y q) : q < st.length := by
  cases x <;> simp only [behind] at hc hy <;> try exact hc.elim
  case dptr τ cs =>
    cases h with
    | data _ _ hd =>
      cases hd with
      | dptr a τ cs u hs hD hu hr =>
        obtain ⟨i, hi⟩ := List.mem_iff_getElem?.1 hy
        exact absurd hn (hr i y hi).noNames
  case ptr r w i j =>
    cases hr : st[r]? with
    | none => simp [hr] at hc
    | some R =>
      have hR := hs r R hr
      cases R with
      | gone => simp [hr] at hc
      | mp kv => simp [hr] at hc
      | box t cs =>
        simp only [hr] at hc hy
        exact hb r t cs y q hr (List.mem_of_mem_drop hy) hn
      | row t w' xs =>
        simp only [hr] at hc hy
        obtain ⟨rfl, hi⟩ := hc
        rcases hR with ⟨_, rfl⟩ | ⟨g', cur, h1, h2, h3⟩
        · simp at hi
        obtain ⟨_, h4⟩ := h3 i _ (nth_some hi)
        obtain ⟨k, hk⟩ := List.mem_iff_getElem?.1 (List.mem_of_mem_drop hy)
        obtain ⟨u, _, hd⟩ := h4 k y hk
        exact absurd hn hd.noNames
/-- Loading a variable of type t whose cells are cs. -/
def ldv (P : Program) (t : Nat) (cs : List AV) : OpR :=
  match tyOf P t with
  | .agg => ⟨P.cellsOf t ≤ cs.length, .agg (cs.take (P.cellsOf t))⟩
  | .other => .no
  | _ => ⟨0 < cs.length, cs.headD .undef⟩
theorem add_none (g off j : Nat) : (⟨g, off, none⟩ : Addr).add j = ⟨g, off + j, none⟩ := by unfold Addr.add; split <;> simp_all
theorem run_isAgg {P : Program} {t : Nat} (W : World) (h : tyOf P t ≠ .other) : (isAgg t).run P W = .ok (match tyOf P t with | .agg => true | _ => false) W := by
  obtain ⟨d, hd⟩ := tyOf_some h
  simp only [isAgg, Sem.run_bind, run_underlying hd, Result.andThen_ok]
  unfold tyOf at h ⊢
  rw [hd] at h ⊢
  cases d <;> simp at h ⊢
theorem load_ok {P : Program} {W : World} {D : Nat → Nat → Prop} {β : Nat → Option Nat} {v : Value} {cs : List AV} {t : Nat} (h : Behind W D β v cs) (hc : (ldv P t cs).c) :
    ∃ u, (Instr.loadAt t v).run P W = .ok u W ∧ Rep W D β u (ldv P t cs).v := by
  obtain ⟨g, off, rfl, hcs⟩ := h
  have hne : tyOf P t ≠ .other := fun e => by simp [ldv, e, OpR.no] at hc
  have hag := run_isAgg W hne
  obtain ⟨d, hd⟩ := tyOf_some hne
  have hsz := run_sizeOf hd W
  cases ht : tyOf P t
  case other => exact absurd ht hne
  case agg =>
    simp only [ldv, ht] at hc ⊢
    let f : Nat → Value := fun j => (W.cell? ⟨g, off + j, none⟩).getD undef
    have key : ∀ j, j < P.cellsOf t → ∃ y u, cs[j]? = some y ∧ W.cell? ⟨g, off + j, none⟩ = some u ∧ u.oneCell' = true ∧ Rep W D β u y := fun j hj => by
      obtain ⟨u, h1, h2, h3⟩ := hcs j _ (List.getElem?_eq_getElem (by omega))
      exact ⟨_, u, List.getElem?_eq_getElem (by omega), h1, h2, h3⟩
    have hl := run_loadCells (P := P) W ⟨g, off, none⟩ (P.cellsOf t) f (fun j hj => by
      obtain ⟨y, u, _, h2, _⟩ := key j hj
      rw [add_none, h2]; simp [f, h2])
    refine ⟨.agg ((List.range (P.cellsOf t)).map f).toArray, ?_, ?_⟩
    · simp [Instr.loadAt, Instr.sureAddr, loadVar, hag, ht, hsz, hl]
    · have hlen : (cs.take (P.cellsOf t)).length = P.cellsOf t := by rw [List.length_take]; omega
      refine .agg _ _ f (by simp [hlen]) (fun i y hy => ?_) (fun i y hy => ?_) (fun i y hy => ?_)
      all_goals
        have hi : i < P.cellsOf t := by have := (List.getElem?_eq_some_iff.1 hy).1; omega
        obtain ⟨y', u, h1, h2, h3, h4⟩ := key i hi
      · simp [hi]
      · simp [f, h2, h3]
      · rw [List.getElem?_take, if_pos hi, h1] at hy
        injection hy with hy
        subst hy
        simp [f, h2, h4]
  all_goals
    simp only [ldv, ht] at hc ⊢
    obtain ⟨u, h1, h2, h3⟩ := hcs 0 _ (List.getElem?_eq_getElem hc)
    refine ⟨u, ?_, ?_⟩
    · simp only [Nat.add_zero] at h1
      simp [Instr.loadAt, Instr.sureAddr, loadVar, hag, ht, h1]
    · cases cs with
      | nil => simp at hc
      | cons c cs => exact h3
/-- The address of a field. -/
def vField (P : Program) (s f : Nat) (x : AV) : OpR :=
  match fld P s f with
  | some (off, ft) => match x with
    | .dptr τ cs => ⟨P.cellsOf ft ≠ 0, .dptr τ (cs.drop off)⟩
    | .ptr r w i j => ⟨P.cellsOf ft ≠ 0, .ptr r w i (j + off)⟩
    | _ => .no
  | none => .no
theorem vField_ok {P : Program} {W : World} {D : Nat → Nat → Prop} {β : Nat → Option Nat} {v : Value} {x : AV} {s f : Nat} (h : Rep W D β v x) (hc : (vField P s f x).c) :
    ∃ u, (Instr.fieldAt s v f).run P W = .ok u W ∧ Rep W D β u (vField P s f x).v := by
  unfold vField at hc ⊢
  cases hf : fld P s f with
  | none => simp [hf, OpR.no] at hc
  | some p =>
    obtain ⟨off, ft⟩ := p
    simp only [hf] at hc ⊢
    unfold fld at hf
    split at hf <;> try cases hf
    rename_i fs hu
    cases hfs : fs[f]? with
    | none => simp [hfs] at hf
    | some fl =>
      simp only [hfs, Option.map_some, Option.some.injEq, Prod.mk.injEq] at hf
      obtain ⟨rfl, rfl⟩ := hf
      cases x <;> simp only at hc ⊢ <;> try exact hc.elim
      case dptr τ cs =>
        have hi : (P.info? fl.type).isSome = true := by
          cases h0 : P.info? fl.type with
          | none => simp [Program.cellsOf, h0] at hc
          | some i => rfl
        cases h with
        | data _ _ hd =>
          cases hd with
          | dptr a τ cs u hs hD hu2 hr =>
            refine ⟨.pointer (some (a.add fl.offset)), ?_, ?_⟩
            · simp [Instr.fieldAt, run_underlying hu, hfs, Instr.sureAddr, fieldPlace, run_sizeOf' hi, hc]
            · have ha : a.add fl.offset = ⟨a.block, a.off + fl.offset, none⟩ := by
                cases a; simp only at hs; subst hs; exact add_none ..
              rw [ha]
              refine .data _ _ (.dptr _ τ _ (fun j => u (fl.offset + j)) rfl hD (fun j y hy => ?_) (fun j y hy => ?_))
              · rw [List.getElem?_drop] at hy
                have := hu2 _ _ hy
                simpa [Nat.add_assoc] using this
              · rw [List.getElem?_drop] at hy
                exact hr _ _ hy
      case ptr r w i j =>
        have hi : (P.info? fl.type).isSome = true := by
          cases h0 : P.info? fl.type with
          | none => simp [Program.cellsOf, h0] at hc
          | some i => rfl
        cases h with
        | data _ _ hd => cases hd
        | ptr _ _ _ _ g hg =>
          refine ⟨.pointer (some ⟨g, i * w + (j + fl.offset), none⟩), ?_, .ptr r w i (j + fl.offset) g hg⟩
          simp [Instr.fieldAt, run_underlying hu, hfs, Instr.sureAddr, fieldPlace, run_sizeOf' hi, hc, add_none, Nat.add_assoc]
/-- The address of an element. -/
def vIndexAddr (P : Program) (t : Nat) (x i : AV) : OpR :=
  match tyOf P t, x, i with
  | .sl e, .sl τ w xs, .int _ n => ⟨P.cellsOf e = w ∧ (P.info? e).isSome = true ∧ 0 ≤ n ∧ n < xs.length, .dptr τ (nth xs n.toNat).cells⟩
  | .sl e, .osl r w off len, .int _ n => ⟨P.cellsOf e = w ∧ (P.info? e).isSome = true ∧ 0 ≤ n ∧ n < len, .ptr r w (off + n.toNat) 0⟩
  | _, _, _ => .no
theorem vIndexAddr_ok {P : Program} {W : World} {D : Nat → Nat → Prop} {β : Nat → Option Nat} {v vi : Value} {x i : AV} {t : Nat} (h : Rep W D β v x) (hi : Rep W D β vi i) (hc : (vIndexAddr P t x i).c) :
    ∃ u, (Instr.indexAt t v vi).run P W = .ok u W ∧ Rep W D β u (vIndexAddr P t x i).v := by
  unfold vIndexAddr at hc ⊢
  split at hc
  · rename_i e τ w xs k n ht
    obtain ⟨rfl, he, h0, h1⟩ := hc
    have hu := tyOf_sl ht
    cases hi with
    | data _ _ hd =>
    cases hd
    cases h with
    | data _ _ hd =>
    cases hd with
    | sl0 A cap => simp at h1; omega
    | sl a cap τ w xs u hs hD hcap hm hw hu2 hr =>
      have hb : a.add (n.toNat * P.cellsOf e) = ⟨a.block, a.off + n.toNat * P.cellsOf e, none⟩ := by
        cases a; simp only at hs; subst hs; exact add_none ..
      have hlt : n.toNat < xs.length := by omega
      refine ⟨.pointer (some (a.add (n.toNat * P.cellsOf e))), ?_, ?_⟩
      · simp [Instr.indexAt, run_underlying hu, asIntOf, h0, h1, run_sizeOf' he]
      · simp only [ht]
        rw [hb]
        refine .data _ _ (.dptr _ τ _ (fun j => u n.toNat j) rfl hD (fun j y hy => ?_) (fun j y hy => ?_))
        · have := hu2 n.toNat _ j y (nth_some hlt) hy
          simpa [Nat.add_assoc] using this
        · exact hr n.toNat _ j y (nth_some hlt) hy
  · rename_i e r w off len k n ht
    obtain ⟨rfl, he, h0, h1⟩ := hc
    have hu := tyOf_sl ht
    cases hi with
    | data _ _ hd =>
    cases hd
    cases h with
    | data _ _ hd => cases hd
    | osl _ _ _ _ _ ho =>
      rcases ho with ⟨_, _, _, rfl⟩ | ⟨g, cap, t', cur, hg, rfl, hh, hcs, hcm, hlc⟩
      · simp at h1; omega
      · refine ⟨.pointer (some ⟨g, (off + n.toNat) * P.cellsOf e + 0, none⟩), ?_, ?_⟩
        · simp [Instr.indexAt, run_underlying hu, asIntOf, h0, h1, run_sizeOf' he, add_none, Nat.add_mul]
        · simp only [ht]
          exact .ptr r _ _ 0 g hg
  · exact hc.elim
def vbits (op : BinOp) (k : IntKind) (x y : Int) : Int :=
  match op with
  | .and => k.wrap (BitVec.ofInt k.bits x &&& BitVec.ofInt k.bits y).toNat
  | .or => k.wrap (BitVec.ofInt k.bits x ||| BitVec.ofInt k.bits y).toNat
  | .xor => k.wrap (BitVec.ofInt k.bits x ^^^ BitVec.ofInt k.bits y).toNat
  | _ => k.wrap (BitVec.ofInt k.bits x &&& ~~~BitVec.ofInt k.bits y).toNat
/-- Two values are one, cell by cell. -/
def cellEq : AV → AV → Option Bool
  | .int k a, .int k' b => if k = k' then some (decide (a = b)) else none
  | .bool a, .bool b => some (a == b)
  | .str a, .str b => some (decide (a = b))
  | _, _ => none
def cellsEq : List AV → List AV → Option Bool
  | [], [] => some true
  | x :: xs, y :: ys => match cellEq x y, cellsEq xs ys with
    | some a, some b => some (a && b)
    | _, _ => none
  | _, _ => none
def vIntBin (op : BinOp) (k : IntKind) (a b : Int) : OpR :=
  match op with
  | .add => ⟨True, .int k (k.wrap (a + b))⟩
  | .sub => ⟨True, .int k (k.wrap (a - b))⟩
  | .mul => ⟨True, .int k (k.wrap (a * b))⟩
  | .quo => ⟨b ≠ 0, .int k (k.wrap (a.tdiv b))⟩
  | .rem => ⟨b ≠ 0, .int k (a.tmod b)⟩
  | .and => ⟨True, .int k (vbits .and k a b)⟩
  | .or => ⟨True, .int k (vbits .or k a b)⟩
  | .xor => ⟨True, .int k (vbits .xor k a b)⟩
  | .andNot => ⟨True, .int k (vbits .andNot k a b)⟩
  | .eql => ⟨True, .bool (decide (a = b))⟩
  | .neq => ⟨True, .bool (!decide (a = b))⟩
  | .lss => ⟨True, .bool (decide (a < b))⟩
  | .leq => ⟨True, .bool (decide (a ≤ b))⟩
  | .gtr => ⟨True, .bool (decide (b < a))⟩
  | .geq => ⟨True, .bool (decide (b ≤ a))⟩
  | .shl => .no
  | .shr => .no
def vStrBin (op : BinOp) (a b : ByteArray) : OpR :=
  match op with
  | .add => ⟨a.size + b.size ≤ 9223372036854775807, .str (a ++ b)⟩
  | .eql => ⟨True, .bool (decide (a = b))⟩
  | .neq => ⟨True, .bool (!decide (a = b))⟩
  | .lss => ⟨True, .bool (Op.bytesLess a.toList b.toList)⟩
  | .gtr => ⟨True, .bool (!(Op.bytesLess a.toList b.toList || a.toList == b.toList))⟩
  | .leq => ⟨True, .bool (Op.bytesLess a.toList b.toList || a.toList == b.toList)⟩
  | .geq => ⟨True, .bool (!Op.bytesLess a.toList b.toList)⟩
  | _ => .no
/-- The kinds of a type's cells, flat: what 'equal' looks at, in order; none where the engine does not follow. -/
def AV.kind : AV → Nat
  | .int _ _ => 0
  | .bool _ => 1
  | .str _ => 2
  | _ => 3
def flatFs (g : Nat → Option (List Nat)) : List Field → Nat → Option (List Nat)
  | [], _ => some []
  | f :: fs, n => if f.offset = n ∧ f.name ≠ "_" then
      match g f.type with
      | some m => (flatFs g fs (n + m.length)).map (m ++ ·)
      | none => none
    else none
def flatEq (P : Program) : Nat → Nat → Option (List Nat)
  | 0, _ => none
  | d + 1, t =>
    match tyOf P t with
    | .int _ => if P.cellsOf t = 1 then some [0] else none
    | .bool => if P.cellsOf t = 1 then some [1] else none
    | .str => if P.cellsOf t = 1 then some [2] else none
    | .agg => if P.stoodInHeld t then none else match flatFs (flatEq P d) (P.fieldsOf t).toList 0 with
      | some n => if P.cellsOf t = n.length then some n else none
      | none => none
    | _ => none
def eqOk (P : Program) (t : Nat) (ks : List Nat) : Bool := (flatEq P 20 t == some ks) && !P.eqGuardType P.depth t && (match tyOf P t with | .agg => true | _ => false)
def vbin (P : Program) (op : BinOp) (t : Nat) (x y : AV) : OpR :=
  match x, y with
  | .int k a, .int k' b => match op with
    | .shl => ⟨0 ≤ b, .int k (k.wrap (a * 2 ^ min b.toNat k.bits))⟩
    | .shr => ⟨0 ≤ b, .int k (a.fdiv (2 ^ min b.toNat k.bits))⟩
    | op => let r := vIntBin op k a b; ⟨k = k' ∧ r.c, r.v⟩
  | .str a, .str b => vStrBin op a b
  | .bool a, .bool b => match op with
    | .eql => ⟨tyOf P t = .bool, .bool (a == b)⟩
    | .neq => ⟨tyOf P t = .bool, .bool (!(a == b))⟩
    | _ => .no
  | .agg xs, .agg ys => match op, cellsEq xs ys with
    | .eql, some b => ⟨eqOk P t (xs.map AV.kind) = true, .bool b⟩
    | .neq, some b => ⟨eqOk P t (xs.map AV.kind) = true, .bool (!b)⟩
    | _, _ => .no
  | .nilp, .nilp => match op with
    | .eql => ⟨tyOf P t = .ptr, .bool true⟩
    | .neq => ⟨tyOf P t = .ptr, .bool false⟩
    | _ => .no
  | .dptr _ _, .nilp | .ptr _ _ _ _, .nilp => match op with
    | .eql => ⟨tyOf P t = .ptr, .bool false⟩
    | .neq => ⟨tyOf P t = .ptr, .bool true⟩
    | _ => .no
  | _, _ => .no
theorem cellsEq_append {a b : List AV} : ∀ {xs ys : List AV} {r : Bool}, xs.length = ys.length → cellsEq (xs ++ a) (ys ++ b) = some r → ∃ p q, cellsEq xs ys = some p ∧ cellsEq a b = some q ∧ r = (p && q)
  | [], [], r, _, h => ⟨true, r, rfl, h, by simp⟩
  | x :: xs, y :: ys, r, hl, h => by
    simp only [List.cons_append, cellsEq] at h ⊢
    cases hc : cellEq x y with
    | none => simp [hc] at h
    | some c =>
      cases he : cellsEq (xs ++ a) (ys ++ b) with
      | none => simp [hc, he] at h
      | some d =>
        simp only [hc, he, Option.some.injEq] at h
        subst h
        obtain ⟨p, q, h1, h2, h3⟩ := cellsEq_append (by simpa using hl) he
        exact ⟨c && p, q, by simp [h1], h2, by rw [h3, Bool.and_assoc]⟩
  | [], _ :: _, _, hl, _ => by simp at hl
  | _ :: _, [], _, hl, _ => by simp at hl
theorem cellsEq_len : ∀ {xs ys : List AV} {r : Bool}, cellsEq xs ys = some r → xs.length = ys.length
  | [], [], _, _ => rfl
  | x :: xs, y :: ys, r, h => by
    simp only [cellsEq] at h
    cases hc : cellEq x y <;> cases he : cellsEq xs ys <;> simp [hc, he] at h
    simp [cellsEq_len he]
  | [], _ :: _, _, h => by simp [cellsEq] at h
  | _ :: _, [], _, h => by simp [cellsEq] at h
section
variable {P : Program} {W : World} {D : Nat → Nat → Prop} {β : Nat → Option Nat}
theorem rep_int {v : Value} {k : IntKind} {n : Int} (h : Rep W D β v (.int k n)) : v = .int k n := by cases h with | data _ _ h => cases h; rfl
theorem rep_bool {v : Value} {b : Bool} (h : Rep W D β v (.bool b)) : v = .bool b := by cases h with | data _ _ h => cases h; rfl
theorem rep_str {v : Value} {b : ByteArray} (h : Rep W D β v (.str b)) : v = .string b := by cases h with | data _ _ h => cases h; rfl
theorem rep_nilp {v : Value} (h : Rep W D β v .nilp) : v = .pointer none := by cases h with | data _ _ h => cases h; rfl
theorem toList_eq_iff (a b : ByteArray) : (a.toList == b.toList) = decide (a = b) := by
  by_cases h : a = b
  · subst h; simp
  · have : ¬ a.toList = b.toList := fun e => h (by
      rw [ByteArray.toList_eq, ByteArray.toList_eq] at e
      cases a; cases b; simp only [ByteArray.mk.injEq]; exact Array.toList_inj.1 e)
    simp [h, this]
theorem equal_scalar {t : Nat} {x y : Value} {a b : AV} {r : Bool} (d : Nat) (hx : Rep W D β x a) (hy : Rep W D β y b) (hr : cellEq a b = some r)
    (hty : (a.kind = 0 ∧ ∃ k, tyOf P t = .int k) ∨ (a.kind = 1 ∧ tyOf P t = .bool) ∨ (a.kind = 2 ∧ tyOf P t = .str)) :
    (Op.equalIn (d + 1) t x y).run P W = .ok r W := by
  cases a <;> cases b <;> simp only [cellEq] at hr <;> try cases hr
  · rename_i k m k' n
    split at hr <;> try cases hr
    rename_i hk
    subst hk
    obtain rfl := rep_int hx
    obtain rfl := rep_int hy
    simp [AV.kind] at hty
    obtain ⟨k0, hk0⟩ := hty
    rw [run_equalIn_int W d t k k0 m n (tyOf_int hk0)]
    congr 1
  · rename_i m n
    obtain rfl := rep_bool hx
    obtain rfl := rep_bool hy
    simp [AV.kind] at hty
    exact run_equalIn_bool' W d t m n (tyOf_bool hty)
  · rename_i m n
    obtain rfl := rep_str hx
    obtain rfl := rep_str hy
    simp [AV.kind] at hty
    rw [run_equalIn_string W d t m n (tyOf_str hty), toList_eq_iff]
/-- The cells of a value of a type that is compared cell by cell. -/
def CellsOf (W : World) (D : Nat → Nat → Prop) (β : Nat → Option Nat) (P : Program) (t : Nat) (v : Value) (cs : List AV) : Prop :=
  (tyOf P t = .agg ∧ ∃ vs : Array Value, v = .agg vs ∧ vs.size = cs.length ∧ ∀ (i : Nat) (y : AV), cs[i]? = some y → ∃ u, vs[i]? = some u ∧ Rep W D β u y) ∨
  (tyOf P t ≠ .agg ∧ ∃ y, cs = [y] ∧ Rep W D β v y)
theorem equal_flat : ∀ (d t : Nat) (ks : List Nat), flatEq P d t = some ks → ∀ (e : Nat) (x y : Value) (ax ay : List AV) (r : Bool), d ≤ e → ax.map AV.kind = ks → CellsOf W D β P t x ax → CellsOf W D β P t y ay → cellsEq ax ay = some r →
    (Op.equalIn e t x y).run P W = .ok r W
  | 0, t, ks, h, _, _, _, _, _, _, _, _, _, _, _ => by simp [flatEq] at h
  | d + 1, t, ks, h, e, x, y, ax, ay, r, hde, hk, hx, hy, hr => by
    obtain ⟨e, rfl⟩ : ∃ e', e = e' + 1 := ⟨e - 1, by omega⟩
    simp only [flatEq] at h
    have scal : ∀ (q : Nat), ks = [q] → tyOf P t ≠ .agg → ((q = 0 ∧ ∃ k, tyOf P t = .int k) ∨ (q = 1 ∧ tyOf P t = .bool) ∨ (q = 2 ∧ tyOf P t = .str)) → (Op.equalIn (e + 1) t x y).run P W = .ok r W := by
      intro q hq hne hty
      rcases hx with ⟨h1, _⟩ | ⟨_, a, rfl, ha⟩
      · exact absurd h1 hne
      rcases hy with ⟨h1, _⟩ | ⟨_, b, rfl, hb⟩
      · exact absurd h1 hne
      have hr' : cellEq a b = some r := by
        simp only [cellsEq] at hr
        cases hc : cellEq a b <;> simp [hc] at hr
        simp [hr]
      refine equal_scalar e ha hb hr' ?_
      subst hq
      simp at hk
      rw [hk]
      exact hty
    cases ht : tyOf P t <;> simp only [ht] at h <;> try cases h
    case int k =>
      split at h <;> try cases h
      exact scal 0 rfl (by simp [ht]) (.inl ⟨rfl, k, ht⟩)
    case bool =>
      split at h <;> try cases h
      exact scal 1 rfl (by simp [ht]) (.inr (.inl ⟨rfl, ht⟩))
    case str =>
      split at h <;> try cases h
      exact scal 2 rfl (by simp [ht]) (.inr (.inr ⟨rfl, ht⟩))
    case agg =>
      split at h <;> try cases h
      rename_i hst
      split at h <;> try cases h
      rename_i n hfl
      split at h <;> try cases h
      rename_i hsz
      rcases hx with ⟨_, vx, rfl, hvx, hxs⟩ | ⟨h1, _⟩
      rotate_left
      · exact absurd ht h1
      rcases hy with ⟨_, vy, rfl, hvy, hys⟩ | ⟨h1, _⟩
      rotate_left
      · exact absurd ht h1
      obtain ⟨fs0, hu⟩ := tyOf_agg ht
      have hfo : P.underlying t = some (.struct (P.fieldsOf t)) := by simp [Program.fieldsOf, hu]
      rw [run_equalIn_struct W e t vx vy hfo (by simpa using hst)]
      have hlxy := cellsEq_len hr
      have key : ∀ (fs : List Field) (n : Nat) (ks : List Nat) (bx byy : List AV) (r : Bool), flatFs (flatEq P d) fs n = some ks → bx.map AV.kind = ks → cellsEq bx byy = some r →
          (∀ (i : Nat) (z : AV), bx[i]? = some z → ∃ u, vx[n + i]? = some u ∧ Rep W D β u z) → (∀ (i : Nat) (z : AV), byy[i]? = some z → ∃ u, vy[n + i]? = some u ∧ Rep W D β u z) → vx.size = n + bx.length → vy.size = n + byy.length →
          (Op.eqFields e vx vy fs).run P W = .ok r W := by
        intro fs
        induction fs with
        | nil =>
          intro n ks bx byy r hf hk hr _ _ _ _
          simp only [flatFs, Option.some.injEq] at hf
          subst hf
          have : bx = [] := by simpa using hk
          subst this
          have hl := cellsEq_len hr
          have : byy = [] := List.eq_nil_of_length_eq_zero (by simpa using hl.symm)
          subst this
          simp only [cellsEq, Option.some.injEq] at hr
          subst hr
          simp [Op.eqFields]
        | cons f fs ih =>
          intro n ks bx byy r hf hk hr hbx hby hnx hny
          simp only [flatFs] at hf
          split at hf <;> try cases hf
          rename_i hfo
          obtain ⟨hoff, hname⟩ := hfo
          cases hg : flatEq P d f.type with
          | none => simp [hg] at hf
          | some m =>
            simp only [hg, Option.map_eq_some_iff] at hf
            obtain ⟨ks', hf', rfl⟩ := hf
            have hml : m.length ≤ bx.length := by
              have : (bx.map AV.kind).length = (m ++ ks').length := by rw [hk]
              simp at this; omega
            have hlb := cellsEq_len hr
            rw [← List.take_append_drop m.length bx, ← List.take_append_drop m.length byy] at hr
            obtain ⟨p, q, hp, hq, rfl⟩ := cellsEq_append (by rw [List.length_take, List.length_take]; omega) hr
            have hk1 : (bx.take m.length).map AV.kind = m := by rw [List.map_take, hk, List.take_left']; rfl
            have hk2 : (bx.drop m.length).map AV.kind = ks' := by rw [List.map_drop, hk, List.drop_left']; rfl
            have hd : ∃ dd, d = dd + 1 := by
              cases d with
              | zero => simp [flatEq] at hg
              | succ dd => exact ⟨dd, rfl⟩
            -- the part
            have part_ok : ∀ (vs : Array Value) (bs : List AV), (∀ (i : Nat) (z : AV), bs[i]? = some z → ∃ u, vs[n + i]? = some u ∧ Rep W D β u z) → vs.size = n + bs.length → m.length ≤ bs.length →
                ∃ u, (part f.type vs f.offset).run P W = .ok u W ∧ CellsOf W D β P f.type u (bs.take m.length) := by
              intro vs bs hb hvs hle
              obtain ⟨dd, rfl⟩ := hd
              have hne : tyOf P f.type ≠ .other := fun e0 => by simp [flatEq, e0] at hg
              have hag := run_isAgg W hne
              obtain ⟨d0, hd0⟩ := tyOf_some hne
              have hsz := run_sizeOf hd0 W
              have hcs : P.cellsOf f.type = m.length := by
                simp only [flatEq] at hg
                cases htf : tyOf P f.type <;> simp only [htf] at hg <;> try cases hg
                case agg =>
                  split at hg <;> try cases hg
                  split at hg <;> try cases hg
                  split at hg <;> try cases hg
                  rename_i _ _ h0
                  exact h0
                all_goals
                  split at hg <;> try cases hg
                  rename_i h0
                  exact h0
              cases htf : tyOf P f.type
              case agg =>
                refine ⟨.agg (vs.extract n (n + m.length)), ?_, .inl ⟨htf, _, rfl, by simp; omega, fun i z hz => ?_⟩⟩
                · simp [part, hag, htf, hsz, hcs, hoff]
                · have hi : i < m.length := by
                    have := (List.getElem?_eq_some_iff.1 hz).1
                    rw [List.length_take] at this; omega
                  rw [List.getElem?_take, if_pos hi] at hz
                  obtain ⟨u, h1, h2⟩ := hb i z hz
                  have : n + i < vs.size := (Array.getElem?_eq_some_iff.1 h1).1
                  refine ⟨u, ?_, h2⟩
                  rw [Array.getElem?_extract]
                  rw [if_pos (by omega)]
                  exact h1
              all_goals
                have hm1 : m.length = 1 := by
                  simp only [flatEq, htf] at hg
                  first
                    | (split at hg <;> cases hg; rfl)
                    | cases hg
                obtain ⟨u, h1, h2⟩ := hb 0 _ (List.getElem?_eq_getElem (by omega))
                simp only [Nat.add_zero] at h1
                refine ⟨u, by simp [part, hag, htf, hoff, h1], .inr ⟨by simp [htf], _, ?_, h2⟩⟩
                rw [hm1] at hle ⊢
                cases bs with
                | nil => exact absurd hle (by simp)
                | cons z zs => rfl
            obtain ⟨ux, hux, hcx⟩ := part_ok vx bx hbx hnx hml
            obtain ⟨uy, huy, hcy⟩ := part_ok vy byy hby hny (by omega)
            have he := equal_flat d f.type m hg e ux uy _ _ p (by omega) hk1 hcx hcy hp
            have ih' := ih (n + m.length) ks' (bx.drop m.length) (byy.drop m.length) q hf' hk2 hq
              (fun i z hz => by rw [List.getElem?_drop] at hz; have := hbx _ _ hz; rwa [← Nat.add_assoc] at this)
              (fun i z hz => by rw [List.getElem?_drop] at hz; have := hby _ _ hz; rwa [← Nat.add_assoc] at this)
              (by rw [List.length_drop]; omega) (by rw [List.length_drop]; omega)
            simp only [Op.eqFields, hname, ne_eq, not_false_eq_true, if_true, Sem.run_bind, hux, huy, Result.andThen_ok, he, Sem.run_ite]
            cases p
            · simp
            · simp only [Bool.not_true, Bool.false_eq_true, if_false, Bool.true_and]
              exact ih'
      exact key _ 0 ks ax ay r hfl hk hr (fun i z hz => by simpa using hxs i z hz) (fun i z hz => by simpa using hys i z hz) (by simpa using hvx) (by simpa using hvy)
end
end Go.Ve
namespace Go.Ve
open Go.RowKit
set_option linter.unusedVariables false
set_option linter.unusedSimpArgs false
section
variable {P : Program} {W : World} {D : Nat → Nat → Prop} {β : Nat → Option Nat}
theorem guard_int (op : BinOp) (t : Nat) (x y : Operand) (k k' : IntKind) (a b : Int) : (eqGuard op t x y (.int k a) (.int k' b)).run P W = .ok () W := by cases op <;> rfl
theorem guard_str (op : BinOp) (t : Nat) (x y : Operand) (a b : ByteArray) : (eqGuard op t x y (.string a) (.string b)).run P W = .ok () W := by cases op <;> rfl
theorem guard_bool (op : BinOp) (t : Nat) (x y : Operand) (a b : Bool) : (eqGuard op t x y (.bool a) (.bool b)).run P W = .ok () W := by cases op <;> rfl
theorem guard_ptr (op : BinOp) (t : Nat) (x y : Operand) (a b : Option Addr) : (eqGuard op t x y (.pointer a) (.pointer b)).run P W = .ok () W := by cases op <;> rfl
theorem tyOf_ptr {t : Nat} (ht : tyOf P t = .ptr) : P.underlying t = some (.pointer (P.pointee t)) := by
  unfold tyOf at ht
  split at ht <;> simp_all [Program.pointee]
theorem vbin_ok {op : BinOp} {t : Nat} {ox oy : Operand} {vx vy : Value} {x y : AV} (hx : Rep W D β vx x) (hy : Rep W D β vy y) (hc : (vbin P op t x y).c) :
    ∃ u, ((eqGuard op t ox oy vx vy).run P W = .ok () W ∧ (binOp op t vx vy).run P W = .ok u W) ∧ Rep W D β u (vbin P op t x y).v := by
  unfold vbin at hc ⊢
  split at hc
  · rename_i k a k' b
    obtain rfl := rep_int hx
    obtain rfl := rep_int hy
    have hgd := guard_int (P := P) (W := W) op t ox oy k k' a b
    cases op
    case shl =>
      have h0 : ¬ b < 0 := by simp only at hc; omega
      exact ⟨.int k (k.wrap (a * 2 ^ min b.toNat k.bits)), ⟨hgd, by simp [binOp, Op.shift, h0]⟩, .data _ _ (.int ..)⟩
    case shr =>
      have h0 : ¬ b < 0 := by simp only at hc; omega
      exact ⟨.int k (a.fdiv (2 ^ min b.toNat k.bits)), ⟨hgd, by simp [binOp, Op.shift, h0]⟩, .data _ _ (.int ..)⟩
    case quo =>
      simp only [vIntBin] at hc ⊢
      obtain ⟨rfl, hb⟩ := hc
      exact ⟨_, ⟨hgd, by simp [binOp, Op.intDiv, hb]⟩, .data _ _ (.int ..)⟩
    case rem =>
      simp only [vIntBin] at hc ⊢
      obtain ⟨rfl, hb⟩ := hc
      exact ⟨_, ⟨hgd, by simp [binOp, Op.intDiv, hb]⟩, .data _ _ (.int ..)⟩
    case and =>
      simp only [vIntBin] at hc ⊢
      obtain ⟨rfl, _⟩ := hc
      exact ⟨_, ⟨hgd, by simp [binOp, Op.intBits, vbits]⟩, .data _ _ (.int ..)⟩
    case or =>
      simp only [vIntBin] at hc ⊢
      obtain ⟨rfl, _⟩ := hc
      exact ⟨_, ⟨hgd, by simp [binOp, Op.intBits, vbits]⟩, .data _ _ (.int ..)⟩
    case xor =>
      simp only [vIntBin] at hc ⊢
      obtain ⟨rfl, _⟩ := hc
      exact ⟨_, ⟨hgd, by simp [binOp, Op.intBits, vbits]⟩, .data _ _ (.int ..)⟩
    case andNot =>
      simp only [vIntBin] at hc ⊢
      obtain ⟨rfl, _⟩ := hc
      exact ⟨_, ⟨hgd, by simp [binOp, Op.intBits, vbits]⟩, .data _ _ (.int ..)⟩
    case add =>
      simp only [vIntBin] at hc ⊢
      obtain ⟨rfl, _⟩ := hc
      exact ⟨_, ⟨hgd, by simp [binOp, Op.intArith]⟩, .data _ _ (.int ..)⟩
    case sub =>
      simp only [vIntBin] at hc ⊢
      obtain ⟨rfl, _⟩ := hc
      exact ⟨_, ⟨hgd, by simp [binOp, Op.intArith]⟩, .data _ _ (.int ..)⟩
    case mul =>
      simp only [vIntBin] at hc ⊢
      obtain ⟨rfl, _⟩ := hc
      exact ⟨_, ⟨hgd, by simp [binOp, Op.intArith]⟩, .data _ _ (.int ..)⟩
    case eql =>
      simp only [vIntBin] at hc ⊢
      obtain ⟨rfl, _⟩ := hc
      exact ⟨.bool (decide (a = b)), ⟨hgd, by simp [binOp, Op.intCmp]; rfl⟩, .data _ _ (.bool ..)⟩
    case neq =>
      simp only [vIntBin] at hc ⊢
      obtain ⟨rfl, _⟩ := hc
      exact ⟨.bool (!decide (a = b)), ⟨hgd, by simp [binOp, Op.intCmp, bne]; rfl⟩, .data _ _ (.bool ..)⟩
    case lss =>
      simp only [vIntBin] at hc ⊢
      obtain ⟨rfl, _⟩ := hc
      exact ⟨.bool (decide (a < b)), ⟨hgd, by simp [binOp, Op.intCmp]⟩, .data _ _ (.bool ..)⟩
    case leq =>
      simp only [vIntBin] at hc ⊢
      obtain ⟨rfl, _⟩ := hc
      exact ⟨.bool (decide (a ≤ b)), ⟨hgd, by simp [binOp, Op.intCmp]⟩, .data _ _ (.bool ..)⟩
    case gtr =>
      simp only [vIntBin] at hc ⊢
      obtain ⟨rfl, _⟩ := hc
      exact ⟨.bool (decide (b < a)), ⟨hgd, by simp [binOp, Op.intCmp]⟩, .data _ _ (.bool ..)⟩
    case geq =>
      simp only [vIntBin] at hc ⊢
      obtain ⟨rfl, _⟩ := hc
      exact ⟨.bool (decide (b ≤ a)), ⟨hgd, by simp [binOp, Op.intCmp]⟩, .data _ _ (.bool ..)⟩
  · rename_i a b
    obtain rfl := rep_str hx
    obtain rfl := rep_str hy
    have hgd := guard_str (P := P) (W := W) op t ox oy a b
    cases op <;> simp only [vStrBin] at hc ⊢ <;> try exact hc.elim
    case add =>
      have h0 : ¬ ((9223372036854775807 : Int) < (a.size : Int) + (b.size : Int)) := by omega
      exact ⟨_, ⟨hgd, by simp [binOp, Op.stringOp, h0]⟩, .data _ _ (.str ..)⟩
    all_goals exact ⟨_, ⟨hgd, by simp only [binOp, Op.stringOp, toList_eq_iff]; rfl⟩, .data _ _ (.bool ..)⟩
  · rename_i a b
    obtain rfl := rep_bool hx
    obtain rfl := rep_bool hy
    have hgd := guard_bool (P := P) (W := W) op t ox oy a b
    cases op <;> simp only at hc ⊢ <;> try exact hc.elim
    · exact ⟨_, ⟨hgd, run_eql_bool W t a b (tyOf_bool hc)⟩, .data _ _ (.bool ..)⟩
    · exact ⟨_, ⟨hgd, run_neq_bool W t a b (tyOf_bool hc)⟩, .data _ _ (.bool ..)⟩
  · rename_i xs ys
    have agg_inv : ∀ {v : Value} {cs : List AV}, Rep W D β v (.agg cs) → ∃ vs : Array Value, v = .agg vs ∧ vs.size = cs.length ∧ ∀ (i : Nat) (z : AV), cs[i]? = some z → ∃ u, vs[i]? = some u ∧ Rep W D β u z := by
      intro v cs h
      cases h with
      | data _ _ h => cases h
      | agg vs cs u hl hu ho hr => exact ⟨vs, rfl, hl, fun i z hz => ⟨u i, hu i z hz, hr i z hz⟩⟩
    obtain ⟨vx, rfl, hvx⟩ := agg_inv hx
    obtain ⟨vy, rfl, hvy⟩ := agg_inv hy
    have go : ∀ b, cellsEq xs ys = some b → eqOk P t (xs.map AV.kind) = true → (Op.equalIn 10000 t (.agg vx) (.agg vy)).run P W = .ok b W ∧ (eqGuard op t ox oy (.agg vx) (.agg vy)).run P W = .ok () W := by
      intro b hb he
      simp only [eqOk, Bool.and_eq_true, beq_iff_eq, Bool.not_eq_true'] at he
      have hagg : tyOf P t = .agg := by
        have := he.2
        split at this
        · rename_i h; exact h
        · cases this
      exact ⟨equal_flat 20 t _ he.1.1 10000 _ _ xs ys b (by decide) rfl (.inl ⟨hagg, vx, rfl, hvx⟩) (.inl ⟨hagg, vy, rfl, hvy⟩) hb, run_eqGuard_agg W op t ox oy vx vy he.1.2⟩
    split at hc
    · rename_i b hb
      obtain ⟨h1, h2⟩ := go b hb hc
      exact ⟨.bool b, ⟨h2, by rw [run_eql_struct, h1]; rfl⟩, .data _ _ (.bool ..)⟩
    · rename_i b hb
      obtain ⟨h1, h2⟩ := go b hb hc
      exact ⟨.bool (!b), ⟨h2, by rw [run_neq_struct, h1]; rfl⟩, .data _ _ (.bool ..)⟩
    · exact hc.elim
  · obtain rfl := rep_nilp hx
    obtain rfl := rep_nilp hy
    have hgd := guard_ptr (P := P) (W := W) op t ox oy none none
    cases op <;> simp only at hc ⊢ <;> try exact hc.elim
    · exact ⟨_, ⟨hgd, run_eql_pointer_nil W t none (tyOf_ptr hc)⟩, .data _ _ (.bool ..)⟩
    · exact ⟨_, ⟨hgd, run_neq_pointer_nil W t none (tyOf_ptr hc)⟩, .data _ _ (.bool ..)⟩
  · obtain rfl := rep_nilp hy
    obtain ⟨a, rfl⟩ : ∃ a, vx = .pointer (some a) := by
      cases hx with
      | data _ _ h => cases h with | dptr a => exact ⟨a, rfl⟩
    have hgd := guard_ptr (P := P) (W := W) op t ox oy (some a) none
    cases op <;> simp only at hc ⊢ <;> try exact hc.elim
    · exact ⟨_, ⟨hgd, run_eql_pointer_nil W t (some a) (tyOf_ptr hc)⟩, .data _ _ (.bool ..)⟩
    · exact ⟨_, ⟨hgd, run_neq_pointer_nil W t (some a) (tyOf_ptr hc)⟩, .data _ _ (.bool ..)⟩
  · obtain rfl := rep_nilp hy
    obtain ⟨a, rfl⟩ : ∃ a, vx = .pointer (some a) := by
      cases hx with
      | data _ _ h => cases h
      | ptr r w i j g => exact ⟨_, rfl⟩
    have hgd := guard_ptr (P := P) (W := W) op t ox oy (some a) none
    cases op <;> simp only at hc ⊢ <;> try exact hc.elim
    · exact ⟨_, ⟨hgd, run_eql_pointer_nil W t (some a) (tyOf_ptr hc)⟩, .data _ _ (.bool ..)⟩
    · exact ⟨_, ⟨hgd, run_neq_pointer_nil W t (some a) (tyOf_ptr hc)⟩, .data _ _ (.bool ..)⟩
  · exact hc.elim
end
def vUn (op : UnOp) (x : AV) : OpR :=
  match op, x with
  | .not, .bool b => ⟨True, .bool (!b)⟩
  | .neg, .int k n => ⟨True, .int k (k.wrap (0 - n))⟩
  | _, _ => .no
def vConv (P : Program) (src dst : Nat) (x : AV) : OpR :=
  match tyOf P dst, x with
  | .int k, .int _ n => ⟨(P.underlying src).isSome = true, .int k (k.wrap n)⟩
  | .str, .str s => ⟨(P.underlying src).isSome = true, .str s⟩
  | _, _ => .no
def vExtract (x : AV) (i : Nat) : OpR :=
  match x with
  | .tup xs => ⟨i < xs.length, nth xs i⟩
  | _ => .no
def vFieldV (P : Program) (s : Nat) (x : AV) (f : Nat) : OpR :=
  match fld P s f, x with
  | some (off, ft), .agg cs => match tyOf P ft with
    | .agg => ⟨off + P.cellsOf ft ≤ cs.length, .agg ((cs.drop off).take (P.cellsOf ft))⟩
    | .other => .no
    | _ => ⟨off < cs.length, nth cs off⟩
  | _, _ => .no
def vLen (P : Program) (st : List Root) (t : Nat) (x : AV) : OpR :=
  match tyOf P t, x with
  | .sl _, .sl _ _ xs => ⟨True, .int .i64 xs.length⟩
  | .sl _, .osl _ _ _ len => ⟨True, .int .i64 len⟩
  | .sl _, .nils => ⟨True, .int .i64 0⟩
  | .str, .str s => ⟨True, .int .i64 s.size⟩
  | .mp _ _, .map r => match st[r]? with
    | some (.mp kv) => ⟨True, .int .i64 kv.length⟩
    | _ => .no
  | _, _ => .no
def vIndex (P : Program) (t : Nat) (x i : AV) : OpR :=
  match tyOf P t, x, i with
  | .str, .str s, .int _ n => ⟨0 ≤ n ∧ n < s.size, .int .u8 ((s.data.toList.getD n.toNat 0).toNat)⟩
  | _, _, _ => .no
/-- A bound of a cut: what it is, and when it is known. -/
def bnd (d : Nat) : Option AV → Prop × Int
  | none => (True, d)
  | some (.int _ n) => (True, n)
  | _ => (False, 0)
def vSlice (P : Program) (t : Nat) (x : AV) (lo hi : Option AV) : OpR :=
  match tyOf P t, x with
  | .sl e, .sl τ w xs =>
    ⟨P.cellsOf e = w ∧ (P.info? e).isSome = true ∧ (bnd 0 lo).1 ∧ (bnd xs.length hi).1 ∧ 0 ≤ (bnd 0 lo).2 ∧ (bnd 0 lo).2 ≤ (bnd xs.length hi).2 ∧ (bnd xs.length hi).2 ≤ xs.length, .sl τ w ((xs.take (bnd xs.length hi).2.toNat).drop (bnd 0 lo).2.toNat)⟩
  | .sl e, .osl r w off len =>
    ⟨P.cellsOf e = w ∧ (P.info? e).isSome = true ∧ (bnd 0 lo).1 ∧ (bnd len hi).1 ∧ 0 ≤ (bnd 0 lo).2 ∧ (bnd 0 lo).2 ≤ (bnd len hi).2 ∧ (bnd len hi).2 ≤ len ∧ ((bnd 0 lo).2 < len ∨ (bnd 0 lo).2 = 0), .osl r w (off + (bnd 0 lo).2.toNat) ((bnd len hi).2.toNat - (bnd 0 lo).2.toNat)⟩
  | .sl e, .nils => ⟨(P.info? e).isSome = true ∧ (bnd 0 lo).1 ∧ (bnd 0 hi).1 ∧ (bnd 0 lo).2 = 0 ∧ (bnd 0 hi).2 = 0, .nils⟩
  | .str, .str s =>
    ⟨(bnd 0 lo).1 ∧ (bnd s.size hi).1 ∧ 0 ≤ (bnd 0 lo).2 ∧ (bnd 0 lo).2 ≤ (bnd s.size hi).2 ∧ (bnd s.size hi).2 ≤ s.size, .str (s.extract (bnd 0 lo).2.toNat (bnd s.size hi).2.toNat)⟩
  | _, _ => .no
section
variable {P : Program} {W : World} {D : Nat → Nat → Prop} {β : Nat → Option Nat}
theorem vUn_ok {op : UnOp} {v : Value} {x : AV} (hx : Rep W D β v x) (hc : (vUn op x).c) : ∃ u, (Op.unary op v).run P W = .ok u W ∧ Rep W D β u (vUn op x).v := by
  unfold vUn at hc ⊢
  split at hc
  · obtain rfl := rep_bool hx
    exact ⟨_, rfl, .data _ _ (.bool ..)⟩
  · obtain rfl := rep_int hx
    exact ⟨_, rfl, .data _ _ (.int ..)⟩
  · exact hc.elim
theorem vConv_ok {src dst : Nat} {v : Value} {x : AV} (hx : Rep W D β v x) (hc : (vConv P src dst x).c) : ∃ u, (convert src dst v).run P W = .ok u W ∧ Rep W D β u (vConv P src dst x).v := by
  unfold vConv at hc ⊢
  split at hc
  · rename_i k k' n ht
    obtain rfl := rep_int hx
    obtain ⟨d, hd⟩ := Option.isSome_iff_exists.1 hc
    have hu := tyOf_int ht
    refine ⟨.int k (k.wrap n), ?_, .data _ _ (.int ..)⟩
    simp [convert, run_underlying hd, run_underlying hu, Conv.intToInt]
  · rename_i s ht
    obtain rfl := rep_str hx
    obtain ⟨d, hd⟩ := Option.isSome_iff_exists.1 hc
    have hu := tyOf_str ht
    refine ⟨.string s, ?_, .data _ _ (.str ..)⟩
    cases d <;> simp [convert, run_underlying hd, run_underlying hu]
  · exact hc.elim
theorem tup_inv {v : Value} {xs : List AV} (h : Rep W D β v (.tup xs)) : ∃ vs : Array Value, v = .tuple vs ∧ vs.size = xs.length ∧ ∀ (i : Nat) (y : AV), xs[i]? = some y → ∃ u, vs[i]? = some u ∧ Rep W D β u y := by
  cases h with
  | data _ _ h => cases h
  | tup vs _ u hl hu hr => exact ⟨vs, rfl, hl, fun i y hy => ⟨u i, hu i y hy, hr i y hy⟩⟩
theorem agg_inv {v : Value} {xs : List AV} (h : Rep W D β v (.agg xs)) : ∃ vs : Array Value, v = .agg vs ∧ vs.size = xs.length ∧ ∀ (i : Nat) (y : AV), xs[i]? = some y → ∃ u, vs[i]? = some u ∧ u.oneCell' = true ∧ Rep W D β u y := by
  cases h with
  | data _ _ h => cases h
  | agg vs _ u hl hu ho hr => exact ⟨vs, rfl, hl, fun i y hy => ⟨u i, hu i y hy, ho i y hy, hr i y hy⟩⟩
theorem vExtract_ok {v : Value} {x : AV} {i : Nat} (hx : Rep W D β v x) (hc : (vExtract x i).c) : ∃ u, (Instr.extract v i).run P W = .ok u W ∧ Rep W D β u (vExtract x i).v := by
  unfold vExtract at hc ⊢
  split at hc
  · obtain ⟨vs, rfl, _, h⟩ := tup_inv hx
    obtain ⟨u, h1, h2⟩ := h i _ (nth_some hc)
    exact ⟨u, by simp [Instr.extract, h1], h2⟩
  · exact hc.elim
theorem vFieldV_ok {s f : Nat} {v : Value} {x : AV} (hx : Rep W D β v x) (hc : (vFieldV P s x f).c) : ∃ u, (Instr.field s v f).run P W = .ok u W ∧ Rep W D β u (vFieldV P s x f).v := by
  unfold vFieldV at hc ⊢
  split at hc
  · rename_i off ft cs hf
    unfold fld at hf
    split at hf <;> try cases hf
    rename_i fs hu
    cases hfs : fs[f]? with
    | none => simp [hfs] at hf
    | some fl =>
      simp only [hfs, Option.map_some, Option.some.injEq, Prod.mk.injEq] at hf
      obtain ⟨rfl, rfl⟩ := hf
      obtain ⟨vs, rfl, hl, h⟩ := agg_inv hx
      have hne : tyOf P fl.type ≠ .other := fun e => by simp [e, OpR.no] at hc
      have hag := run_isAgg W hne
      obtain ⟨d0, hd0⟩ := tyOf_some hne
      have hsz := run_sizeOf hd0 W
      cases ht : tyOf P fl.type
      case other => exact absurd ht hne
      case agg =>
        simp only [ht] at hc ⊢
        refine ⟨.agg (vs.extract fl.offset (fl.offset + P.cellsOf fl.type)), ?_, .agg _ _ (fun i => vs.getD (fl.offset + i) undef) (by simp; omega) (fun i y hy => ?_) (fun i y hy => ?_) (fun i y hy => ?_)⟩
        · simp [Instr.field, run_underlying hu, hfs, asAgg, part, hag, ht, hsz]
        all_goals
          have hi : i < P.cellsOf fl.type := by
            have := (List.getElem?_eq_some_iff.1 hy).1
            rw [List.length_take] at this; omega
          rw [List.getElem?_take, if_pos hi, List.getElem?_drop] at hy
          obtain ⟨u, h1, h2, h3⟩ := h _ _ hy
          have hlt : fl.offset + i < vs.size := (Array.getElem?_eq_some_iff.1 h1).1
        · rw [Array.getElem?_extract, if_pos (by omega)]
          simp [h1]
        · simp [h1, h2]
        · simp [h1, h3]
      all_goals
        simp only [ht] at hc ⊢
        obtain ⟨u, h1, h2, h3⟩ := h _ _ (nth_some hc)
        exact ⟨u, by simp [Instr.field, run_underlying hu, hfs, asAgg, part, hag, ht, h1], h3⟩
  · exact hc.elim
theorem vLen_ok {st : List Root} {t ty : Nat} {v : Value} {x : AV} (hs : ∀ r R, st[r]? = some R → RootOk W D β r R) (hx : Rep W D β v x) (hc : (vLen P st t x).c) : ∃ u, (Builtin.len_ #[t] ty #[v]).run P W = .ok u W ∧ Rep W D β u (vLen P st t x).v := by
  unfold vLen at hc ⊢
  split at hc
  · rename_i e τ w xs ht
    have hu := tyOf_sl ht
    cases hx with
    | data _ _ h =>
    refine ⟨.int .i64 xs.length, ?_, .data _ _ (.int ..)⟩
    cases h <;> simp [Builtin.len_, run_underlying hu, goInt]
  · rename_i e r w off len ht
    have hu := tyOf_sl ht
    cases hx with
    | data _ _ h => cases h
    | osl _ _ _ _ _ h =>
    refine ⟨.int .i64 len, ?_, .data _ _ (.int ..)⟩
    rcases h with ⟨_, rfl, _, rfl⟩ | ⟨g, cap, t', cur, _, rfl, _⟩ <;> simp [Builtin.len_, run_underlying hu, goInt]
  · rename_i e ht
    have hu := tyOf_sl ht
    cases hx with
    | data _ _ h =>
    cases h
    exact ⟨.int .i64 0, by simp [Builtin.len_, run_underlying hu, goInt], .data _ _ (.int ..)⟩
  · rename_i s ht
    obtain rfl := rep_str hx
    exact ⟨.int .i64 s.size, by simp [Builtin.len_, run_underlying (tyOf_str ht), goInt], .data _ _ (.int ..)⟩
  · rename_i k e r ht
    have hu := tyOf_mp ht
    cases hr : st[r]? with
    | none => simp [hr, OpR.no] at hc
    | some R =>
      cases R with
      | mp kv =>
        obtain ⟨g, es, clk, h1, h2, h3, h4⟩ := hs r _ hr
        cases hx with
        | data _ _ h => cases h
        | map _ g' hg =>
          obtain rfl : g = g' := by rw [hg] at h1; injection h1 with h1; exact h1.symm
          refine ⟨.int .i64 kv.length, ?_, .data _ _ (.int ..)⟩
          simp [Builtin.len_, run_underlying hu, goInt, getObj, Sem.run, h2, h3]
      | gone => simp [hr, OpR.no] at hc
      | row t w xs => simp [hr, OpR.no] at hc
      | box t cs => simp [hr, OpR.no] at hc
  · exact hc.elim
theorem vIndex_ok {t : Nat} {v vi : Value} {x i : AV} (hx : Rep W D β v x) (hi : Rep W D β vi i) (hc : (vIndex P t x i).c) : ∃ u, (Instr.index t v vi).run P W = .ok u W ∧ Rep W D β u (vIndex P t x i).v := by
  unfold vIndex at hc ⊢
  split at hc
  · rename_i s k n ht
    obtain rfl := rep_str hx
    obtain rfl := rep_int hi
    refine ⟨_, ?_, .data _ _ (.int ..)⟩
    rw [run_index_string W t s k n (tyOf_str ht), dif_pos hc]
    have hlt : n.toNat < s.size := by omega
    have h2 : n.toNat < s.data.toList.length := by rw [Array.length_toList]; exact hlt
    rw [List.getD_eq_getElem?_getD, List.getElem?_eq_getElem h2]
    rfl
  · exact hc.elim
end
section
variable {P : Program} {W : World} {D : Nat → Nat → Prop} {β : Nat → Option Nat}
def RepO (W : World) (D : Nat → Nat → Prop) (β : Nat → Option Nat) : Option Value → Option AV → Prop
  | none, none => True
  | some v, some x => Rep W D β v x
  | _, _ => False
theorem bnd_inv {d : Nat} {v : Option Value} {x : Option AV} (h : RepO W D β v x) (hc : (bnd d x).1) : (v = none ∧ (bnd d x).2 = d) ∨ ∃ k, v = some (.int k (bnd d x).2) := by
  cases v <;> cases x <;> simp only [RepO] at h
  · exact .inl ⟨rfl, rfl⟩
  · rename_i v x
    cases x <;> simp only [bnd] at hc <;> try exact hc.elim
    obtain rfl := rep_int h
    exact .inr ⟨_, rfl⟩
theorem run_bounds {len cap : Nat} {isS : Bool} {lo hi : Option Value} {xl xh : Option AV} (hl : RepO W D β lo xl) (hh : RepO W D β hi xh) (cl : (bnd 0 xl).1) (ch : (bnd len xh).1)
    (h0 : 0 ≤ (bnd 0 xl).2) (h1 : (bnd 0 xl).2 ≤ (bnd len xh).2) (h2 : (bnd len xh).2 ≤ cap) :
    (Instr.sliceBounds isS len cap lo hi none).run P W = .ok ((bnd 0 xl).2.toNat, (bnd len xh).2.toNat, cap) W := by
  generalize hL : (bnd 0 xl).2 = L at *
  generalize hH : (bnd len xh).2 = H at *
  have hx : (H.toNat : Int) = H := Int.toNat_of_nonneg (by omega)
  have eL := bnd_inv hl cl
  have eH := bnd_inv hh ch
  rw [hL] at eL
  rw [hH] at eH
  rcases eL with ⟨rfl, eL⟩ | ⟨k, rfl⟩ <;> rcases eH with ⟨rfl, eH⟩ | ⟨k', rfl⟩
  · subst eL; subst eH; simp [Instr.sliceBounds]
  · subst eL
    have h00 : 0 ≤ H := by omega
    clear h1 h0 hL
    have e := run_sliceBound (P := P) W k' H cap (if isS = true then .sliceAcap else .sliceAlen) h00 h2
    simp [Instr.sliceBounds, e]
  · subst eH; simp [Instr.sliceBounds, run_sliceBound, h0, h1]
  · simp [Instr.sliceBounds, run_sliceBound, h0, h1, h2, hx, (by omega : 0 ≤ H)]
theorem sl_inv {v : Value} {τ w : Nat} {xs : List AV} (h : Rep W D β v (.sl τ w xs)) : ∃ A cap, v = .slice A xs.length cap ∧ xs.length ≤ cap ∧ (xs = [] ∨ ∃ (a : Addr) (u : Nat → Nat → Value), A = some a ∧ a.spot = none ∧ D τ a.block ∧ xs.length ≤ maxLen ∧
    (∀ (i : Nat) (x : AV), xs[i]? = some x → x.cells.length = w) ∧ (∀ (i : Nat) (x : AV) (j : Nat) (y : AV), xs[i]? = some x → x.cells[j]? = some y → W.cell? ⟨a.block, a.off + (i * w + j), none⟩ = some (u i j)) ∧
    (∀ (i : Nat) (x : AV) (j : Nat) (y : AV), xs[i]? = some x → x.cells[j]? = some y → RepD W D (u i j) y)) := by
  cases h with
  | data _ _ hd =>
    cases hd with
    | sl0 A cap => exact ⟨A, cap, rfl, Nat.zero_le _, .inl rfl⟩
    | sl a cap τ w xs u hs hD hcap hm hw hu2 hr => exact ⟨_, cap, rfl, hcap, .inr ⟨a, u, rfl, hs, hD, hm, hw, hu2, hr⟩⟩
theorem vSlice_ok {t : Nat} {v : Value} {x : AV} {lo hi : Option Value} {xl xh : Option AV} (hx : Rep W D β v x) (hl : RepO W D β lo xl) (hh : RepO W D β hi xh) (hc : (vSlice P t x xl xh).c) :
    ∃ u, (Instr.sliceAt t v lo hi none).run P W = .ok u W ∧ Rep W D β u (vSlice P t x xl xh).v := by
  unfold vSlice at hc ⊢
  split at hc
  · rename_i e τ w xs ht
    obtain ⟨rfl, he, cl, ch, h0, h1, h2⟩ := hc
    have hu := tyOf_sl ht
    obtain ⟨A, cap, rfl, hcap, hor⟩ := sl_inv hx
    have hb := run_bounds (P := P) (isS := true) (len := xs.length) (cap := cap) hl hh cl ch h0 h1 (by omega)
    refine ⟨.slice (if cap = (bnd 0 xl).2.toNat then A else A.map (·.add ((bnd 0 xl).2.toNat * P.cellsOf e))) ((bnd xs.length xh).2.toNat - (bnd 0 xl).2.toNat) (cap - (bnd 0 xl).2.toNat), ?_, ?_⟩
    · simp [Instr.sliceAt, Instr.slice, run_underlying hu, hb, run_sizeOf' he]
    · generalize (bnd 0 xl).2 = L at *
      generalize (bnd xs.length xh).2 = H at *
      have hlen : ((xs.take H.toNat).drop L.toNat).length = H.toNat - L.toNat := by rw [List.length_drop, List.length_take]; omega
      rcases hor with rfl | ⟨a, u, rfl, hs, hD, hm, hw, hu2, hr⟩
      · simp only [List.take_nil, List.drop_nil]
        have : H.toNat - L.toNat = 0 := by simp at h2; omega
        rw [this]
        exact .data _ _ (.sl0 ..)
      · by_cases hz : H.toNat - L.toNat = 0
        · have : (xs.take H.toNat).drop L.toNat = [] := List.eq_nil_of_length_eq_zero (by omega)
          rw [this, hz]
          exact .data _ _ (.sl0 ..)
        · have hcl : ¬ cap = L.toNat := by omega
          rw [if_neg hcl, ← hlen]
          have ha : a.add (L.toNat * P.cellsOf e) = ⟨a.block, a.off + L.toNat * P.cellsOf e, none⟩ := by
            cases a; simp only at hs; subst hs; exact add_none ..
          simp only [Option.map_some]
          rw [ha]
          have conv : ∀ (i : Nat) (y : AV), ((xs.take H.toNat).drop L.toNat)[i]? = some y → xs[L.toNat + i]? = some y := by
            intro i y hy
            rw [List.getElem?_drop, List.getElem?_take] at hy
            split at hy
            · exact hy
            · cases hy
          refine .data _ _ (.sl _ _ τ (P.cellsOf e) _ (fun i j => u (L.toNat + i) j) rfl hD (by rw [hlen]; omega) (by rw [hlen]; omega) (fun i x hx => hw _ _ (conv i x hx)) (fun i x j y hx hy => ?_) (fun i x j y hx hy => hr _ _ j y (conv i x hx) hy))
          have := hu2 _ _ j y (conv i x hx) hy
          simpa [Nat.add_mul, Nat.add_assoc] using this
  · rename_i e r w off len ht
    obtain ⟨rfl, he, cl, ch, h0, h1, h2, h3⟩ := hc
    have hu := tyOf_sl ht
    cases hx with
    | data _ _ hd => cases hd
    | osl _ _ _ _ _ ho =>
    obtain ⟨A, cap, rfl, hcap⟩ : ∃ A cap, v = .slice A len cap ∧ len ≤ cap := by
      rcases ho with ⟨_, rfl, _, rfl⟩ | ⟨g, cap, t', cur, _, rfl, _, _, _, hlc⟩
      · exact ⟨none, 0, rfl, Nat.le_refl _⟩
      · exact ⟨_, cap, rfl, hlc⟩
    have hb := run_bounds (P := P) (isS := true) (len := len) (cap := cap) hl hh cl ch h0 h1 (by omega)
    refine ⟨.slice (if cap = (bnd 0 xl).2.toNat then A else A.map (·.add ((bnd 0 xl).2.toNat * P.cellsOf e))) ((bnd len xh).2.toNat - (bnd 0 xl).2.toNat) (cap - (bnd 0 xl).2.toNat), ?_, ?_⟩
    · simp [Instr.sliceAt, Instr.slice, run_underlying hu, hb, run_sizeOf' he]
    · show Rep W D β _ (.osl r (P.cellsOf e) (off + (bnd 0 xl).2.toNat) ((bnd len xh).2.toNat - (bnd 0 xl).2.toNat))
      generalize (bnd 0 xl).2 = L at *
      generalize (bnd len xh).2 = H at *
      refine .osl _ _ _ _ _ ?_
      rcases ho with ⟨h4, h5, rfl, rfl⟩ | ⟨g, cap', t', cur, h4, h5, h6, h7, h8, h9⟩
      · injection h5 with h5 h5' h5''
        subst h5
        have hL : L.toNat = 0 := by omega
        have hH : H.toNat = 0 := by omega
        refine .inl ⟨h4, ?_, by omega, by omega⟩
        simp [hL, hH]
        omega
      · injection h5 with h5 h5' h5''
        subst h5 h5''
        by_cases hL : L.toNat = 0
        · rw [hL]
          refine .inr ⟨g, cap, t', cur, h4, ?_, h6, by simpa using h7, by omega, by omega⟩
          by_cases hc0 : cap = 0
          · simp [hc0]
          · simp [hc0, Addr.add]
        · have hne : ¬ cap = L.toNat := by omega
          refine .inr ⟨g, cap - L.toNat, t', cur, h4, ?_, h6, ?_, by omega, by omega⟩
          · simp [hne, add_none, Nat.add_mul]
          · rw [h7]; congr 1; omega
  · rename_i e ht
    obtain ⟨he, cl, ch, h0, h1⟩ := hc
    have hu := tyOf_sl ht
    cases hx with
    | data _ _ hd =>
    cases hd
    have hb := run_bounds (P := P) (isS := true) (len := 0) (cap := 0) hl hh cl ch (by omega) (by omega) (by omega)
    rw [h0, h1] at hb
    refine ⟨.slice none 0 0, ?_, .data _ _ .nils⟩
    simp [Instr.sliceAt, Instr.slice, run_underlying hu, hb, run_sizeOf' he]
  · rename_i s ht
    obtain ⟨cl, ch, h0, h1, h2⟩ := hc
    have hu := tyOf_str ht
    obtain rfl := rep_str hx
    have hb := run_bounds (P := P) (isS := false) (len := s.size) (cap := s.size) hl hh cl ch h0 h1 h2
    refine ⟨_, ?_, .data _ _ (.str ..)⟩
    simp [Instr.sliceAt, Instr.slice, run_underlying hu, hb]
  · exact hc.elim
/-- The entry of a key: the first that is this key. -/
def kvFind (kv : List (AV × AV)) (k : AV) : Option (Option AV) :=
  match kv with
  | [] => some none
  | (k', v) :: kv => match cellEq k k' with
    | some b => match kvFind kv k with
      | some r => some (bif b then some v else r)
      | none => none
    | none => none
end
def zeroAV (P : Program) (t : Nat) : AV :=
  match (P.info? t).bind (·.zero) with
  | some v => ofValue v
  | none => .undef
def keyOk (P : Program) (t : Nat) (k : AV) : Bool :=
  match tyOf P t, k with
  | .int _, .int _ _ => true
  | .bool, .bool _ => true
  | .str, .str _ => true
  | _, _ => false
def vLookup (P : Program) (st : List Root) (t : Nat) (x k : AV) (ok : Bool) : OpR :=
  match tyOf P t, x with
  | .mp kt et, .map r => match st[r]? with
    | some (.mp kv) => match kvFind kv k with
      | some o => ⟨keyOk P kt k = true ∧ ((P.info? et).bind (·.zero)).isSome = true, bif ok then .tup [o.getD (zeroAV P et), .bool o.isSome] else o.getD (zeroAV P et)⟩
      | none => .no
    | _ => .no
  | _, _ => .no
section
variable {P : Program} {W : World} {D : Nat → Nat → Prop} {β : Nat → Option Nat}
theorem sameNow_ok {kt : Nat} {d : TypeDesc} (hd : P.underlying kt = some d) {v v' : Value} {k k' : AV} {b : Bool} (hk : keyOk P kt k = true) (hv : RepD W D v k) (hv' : RepD W D v' k') (h : cellEq k k' = some b) : Instr.sameNow d v v' = some b := by
  unfold keyOk at hk
  split at hk <;> try cases hk
  · rename_i k0 k1 n ht
    have := tyOf_int ht
    rw [hd] at this; injection this with this; subst this
    cases k' <;> simp only [cellEq] at h <;> try cases h
    split at h <;> try cases h
    rename_i hkk
    subst hkk
    cases hv; cases hv'
    simp [Instr.sameNow]
    rfl
  · rename_i n ht
    have := tyOf_bool ht
    rw [hd] at this; injection this with this; subst this
    cases k' <;> simp only [cellEq] at h <;> try cases h
    cases hv; cases hv'
    simp [Instr.sameNow]
  · rename_i n ht
    have := tyOf_str ht
    rw [hd] at this; injection this with this; subst this
    cases k' <;> simp only [cellEq] at h <;> try cases h
    cases hv; cases hv'
    simp only [Instr.sameNow]
    rw [beq_toListBytes, toList_eq_iff]
theorem findNow_ok {kt : Nat} {d : TypeDesc} (hd : P.underlying kt = some d) {v : Value} {k : AV} (hk : keyOk P kt k = true) (hv : RepD W D v k) : ∀ (kv : List (AV × AV)) (es : List MapEntry) (i : Nat) (o : Option AV), es.length = kv.length →
    (∀ (i : Nat) (k x : AV), kv[i]? = some (k, x) → ∃ e, es[i]? = some e ∧ RepD W D e.key k ∧ RepD W D e.val x) → kvFind kv k = some o →
    (o = none ∧ Instr.findNow d v es i = some none) ∨ ∃ x j e, o = some x ∧ Instr.findNow d v es i = some (some (i + j, e.val)) ∧ es[j]? = some e ∧ RepD W D e.val x
  | [], [], i, o, _, _, h => by
    simp only [kvFind, Option.some.injEq] at h
    exact .inl ⟨h.symm, rfl⟩
  | [], _ :: _, _, _, hl, _, _ => by simp at hl
  | _ :: _, [], _, _, hl, _, _ => by simp at hl
  | (k', x) :: kv, e :: es, i, o, hl, hr, h => by
    simp only [kvFind] at h
    cases hc : cellEq k k' with
    | none => simp [hc] at h
    | some b =>
      cases hf : kvFind kv k with
      | none => simp [hc, hf] at h
      | some r =>
        simp only [hc, hf, Option.some.injEq] at h
        obtain ⟨e0, he0, h1, h2⟩ := hr 0 k' x rfl
        simp only [List.getElem?_cons_zero, Option.some.injEq] at he0
        subst he0
        have hs := sameNow_ok hd hk hv h1 hc
        cases b
        · simp only [cond_false] at h
          subst h
          have ih := findNow_ok hd hk hv kv es (i + 1) r (by simpa using hl) (fun j k x hj => by simpa using hr (j + 1) k x (by simpa using hj)) hf
          rcases ih with ⟨h3, h4⟩ | ⟨y, j, e1, h3, h4, h5, h6⟩
          · exact .inl ⟨h3, by simp only [Instr.findNow, hs]; exact h4⟩
          · exact .inr ⟨y, j + 1, e1, h3, by simp only [Instr.findNow, hs]; rw [h4]; congr 3; omega, by simpa using h5, h6⟩
        · simp only [cond_true] at h
          exact .inr ⟨x, 0, e, h.symm, by simp only [Instr.findNow, hs]; rfl, rfl, h2⟩
theorem run_checkKeyN {kt : Nat} {v : Value} {k : AV} (em : Bool) (n : Nat) (hk : keyOk P kt k = true) : (Instr.checkKey em (n + 1) kt v).run P W = .ok () W := by
  unfold keyOk at hk
  split at hk <;> try cases hk
  · rename_i ht
    simp [Instr.checkKey, run_underlying (tyOf_int ht)]
  · rename_i ht
    simp [Instr.checkKey, run_underlying (tyOf_bool ht)]
  · rename_i ht
    simp [Instr.checkKey, run_underlying (tyOf_str ht)]
theorem run_checkKey {kt : Nat} {v : Value} {k : AV} (em : Bool) (hk : keyOk P kt k = true) : (Instr.checkKey em 10000 kt v).run P W = .ok () W := run_checkKeyN em 9999 hk
theorem keyOk_under {kt : Nat} {k : AV} (hk : keyOk P kt k = true) : ∃ d, P.underlying kt = some d := by
  unfold keyOk at hk
  split at hk <;> try cases hk
  · rename_i ht; exact ⟨_, tyOf_int ht⟩
  · rename_i ht; exact ⟨_, tyOf_bool ht⟩
  · rename_i ht; exact ⟨_, tyOf_str ht⟩
theorem rep_data {v : Value} {k : AV} (h : Rep W D β v k) (hk : (∃ a n, k = .int a n) ∨ (∃ b, k = .bool b) ∨ ∃ s, k = .str s) : RepD W D v k := by
  rcases hk with ⟨a, n, rfl⟩ | ⟨b, rfl⟩ | ⟨s, rfl⟩ <;> (cases h with | data _ _ h => exact h)
theorem keyOk_kind {kt : Nat} {k : AV} (hk : keyOk P kt k = true) : (∃ a n, k = .int a n) ∨ (∃ b, k = .bool b) ∨ ∃ s, k = .str s := by
  unfold keyOk at hk
  split at hk <;> try cases hk
  · exact .inl ⟨_, _, rfl⟩
  · exact .inr (.inl ⟨_, rfl⟩)
  · exact .inr (.inr ⟨_, rfl⟩)
theorem run_zero {t : Nat} (h : ((P.info? t).bind (·.zero)).isSome = true) : ∃ v, (zeroValue t).run P W = .ok v W ∧ Rep W D β v (zeroAV P t) ∧ (P.info? t).bind (·.zero) = some v := by
  obtain ⟨v, hv⟩ := Option.isSome_iff_exists.1 h
  cases hi : P.info? t with
  | none => simp [hi] at hv
  | some i =>
    have hz : i.zero = some v := by simpa [hi] using hv
    exact ⟨v, by simp [zeroValue, typeInfo, hi, hz], by rw [zeroAV, hv]; exact rep_ofValue .., by simp [hz]⟩
theorem vLookup_ok {st : List Root} {t : Nat} {v vk : Value} {x k : AV} {ok : Bool} (hs : ∀ r R, st[r]? = some R → RootOk W D β r R) (hx : Rep W D β v x) (hk : Rep W D β vk k) (hc : (vLookup P st t x k ok).c) :
    ∃ u, (Instr.lookup t v vk ok).run P W = .ok u W ∧ Rep W D β u (vLookup P st t x k ok).v := by
  unfold vLookup at hc ⊢
  split at hc
  · rename_i kt et r ht
    have hu := tyOf_mp ht
    cases hr : st[r]? with
    | none => simp [hr, OpR.no] at hc
    | some R =>
      cases R with
      | mp kv =>
        simp only [hr] at hc ⊢
        cases hf : kvFind kv k with
        | none => simp [hf, OpR.no] at hc
        | some o =>
          simp only [hf] at hc ⊢
          obtain ⟨hko, hz⟩ := hc
          obtain ⟨g, es, clk, h1, h2, h3, h4⟩ := hs r _ hr
          cases hx with
          | data _ _ h => cases h
          | map _ g' hg =>
            obtain rfl : g = g' := by rw [hg] at h1; injection h1 with h1; exact h1.symm
            obtain ⟨d, hd⟩ := keyOk_under hko
            have hkd := rep_data hk (keyOk_kind hko)
            have hck := run_checkKey (P := P) (W := W) (v := vk) es.isEmpty hko
            have hfn := findNow_ok (W := W) (D := D) hd hko hkd kv es.toList 0 o (by simpa using h3) (fun i k x hi => by obtain ⟨e, he, h⟩ := h4 i k x hi; exact ⟨e, by simpa using he, h⟩) hf
            obtain ⟨z, hz1, hz2, _⟩ := run_zero (W := W) (D := D) (β := β) hz
            have hgo : (getObj g).run P W = .ok (.map es clk) W := by simp [getObj, Sem.run, h2]
            have two : ∀ (u : Value) (a : AV) (b : Bool), Rep W D β u a → Rep W D β (.tuple #[u, .bool b]) (.tup [a, .bool b]) := by
              intro u a b hu
              refine .tup _ _ (fun i => if i = 0 then u else .bool b) rfl (fun i y hy => ?_) (fun i y hy => ?_)
              · match i, hy with
                | 0, _ => rfl
                | 1, _ => rfl
              · match i, hy with
                | 0, hy => simp at hy; subst hy; exact hu
                | 1, hy => simp at hy; subst hy; exact .data _ _ (.bool ..)
            rcases hfn with ⟨rfl, hfn⟩ | ⟨y, j, e, rfl, hfn, hej, hey⟩
            · cases ok
              · exact ⟨z, by simp [Instr.lookup, run_underlying hu, hgo, hck, Instr.findKey, run_underlying hd, hfn, hz1], hz2⟩
              · exact ⟨.tuple #[z, .bool false], by simp [Instr.lookup, run_underlying hu, hgo, hck, Instr.findKey, run_underlying hd, hfn, hz1], two _ _ _ hz2⟩
            · cases ok
              · exact ⟨e.val, by simp [Instr.lookup, run_underlying hu, hgo, hck, Instr.findKey, run_underlying hd, hfn], .data _ _ hey⟩
              · exact ⟨.tuple #[e.val, .bool true], by simp [Instr.lookup, run_underlying hu, hgo, hck, Instr.findKey, run_underlying hd, hfn], two _ _ _ (.data _ _ hey)⟩
      | gone => simp [hr, OpR.no] at hc
      | row t w xs => simp [hr, OpR.no] at hc
      | box t cs => simp [hr, OpR.no] at hc
  · exact hc.elim
end
end Go.Ve
namespace Go.Ve
open Go.RowKit
set_option linter.unusedVariables false
set_option linter.unusedSimpArgs false
def Env.ev (e : Env) : Operand → AV
  | .tmp t => tv e.tm t
  | .const v => ofValue v
  | .func f => .fn f []
  | .global _ => .undef
/-- An operand's value, the guard taken off; and when that may be done. -/
def Env.arg (e : Env) (x : Operand) : AV := (e.ev x).core
def Env.argc (e : Env) (x : Operand) : Prop := (e.ev x).gc = true
structure Fine (W : World) (D : Nat → Nat → Prop) (β : Nat → Option Nat) (e : Env) (a : Act) : Prop where
  tm : ∀ i, Rep W D β (a.tmps.getD i undef) (tv e.tm i)
  nm : ∀ i q, Names (tv e.tm i) q → q < e.st.length
  rt : ∀ r R, e.st[r]? = some R → RootOk W D β r R
  bx : ∀ (r t : Nat) (cs : List AV) (y : AV) (q : Nat), e.st[r]? = some (Root.box t cs) → y ∈ cs → Names y q → q < e.st.length
section
variable {W : World} {D : Nat → Nat → Prop} {β : Nat → Option Nat} {e : Env} {a : Act}
theorem Fine.ev (h : Fine W D β e a) (x : Operand) : Rep W D β (a.eval x) (e.ev x) := by
  cases x with
  | tmp t => exact h.tm t
  | const v => exact rep_ofValue ..
  | func f => exact .data _ _ (.fn f #[] [] (fun _ => undef) rfl (fun i y hy => by simp at hy) (fun i y hy => by simp at hy))
  | global g => exact .undef _
theorem Fine.names (h : Fine W D β e a) (x : Operand) {q : Nat} (hn : Names (e.ev x) q) : q < e.st.length := by
  cases x with
  | tmp t => exact h.nm t q hn
  | const v => exact (names_ofValue hn).elim
  | func f => cases hn with | fn _ _ y _ hy _ => cases hy
  | global g => cases hn
theorem Fine.arg (h : Fine W D β e a) {x : Operand} (hc : e.argc x) : Rep W D β (a.eval x) (e.arg x) := (h.ev x).core hc
theorem Fine.names' (h : Fine W D β e a) (x : Operand) (hc : e.argc x) {q : Nat} (hn : Names (e.arg x) q) : q < e.st.length := h.names x (hn.core hc)
end
def pickv (c a b : AV) : OpR :=
  match c.core, a.core, b.core with
  | .bool t, .bool x, .bool y => ⟨c.gc = true ∧ (t = true → a.gc = true) ∧ (t = false → b.gc = true), .bool (bif t then x else y)⟩
  | .bool t, x, y => ⟨c.gc = true ∧ (t = true → a.gc = true) ∧ (t = false → b.gc = true), bif t then x else y⟩
  | _, _, _ => .no
def vMax (x y : AV) : OpR :=
  match x, y with
  | .int k a, .int _ b => ⟨True, .int k (if b > a then b else a)⟩
  | _, _ => .no
def vMin (x y : AV) : OpR :=
  match x, y with
  | .int k a, .int _ b => ⟨True, .int k (if b < a then b else a)⟩
  | _, _ => .no
def vNil (x : AV) : OpR :=
  match x with
  | .ptr r w i j => ⟨True, .ptr r w i j⟩
  | .dptr τ cs => ⟨True, .dptr τ cs⟩
  | .fn f cs => ⟨True, .fn f cs⟩
  | _ => .no
def opv (P : Program) (e : Env) (op : Op) : OpR :=
  match op with
  | .move x => ⟨e.argc x, e.arg x⟩
  | .assign x => ⟨e.argc x, e.arg x⟩
  | .pick c a b => pickv (e.ev c) (e.ev a) (e.ev b)
  | .load t a => ⟨e.argc a ∧ (behind e.st (e.arg a)).1 ∧ (ldv P t (behind e.st (e.arg a)).2).c, (ldv P t (behind e.st (e.arg a)).2).v⟩
  | .nilCheck x => ⟨e.argc x ∧ (vNil (e.arg x)).c, (vNil (e.arg x)).v⟩
  | .binOp op t x y _ => ⟨e.argc x ∧ e.argc y ∧ (vbin P op t (e.arg x) (e.arg y)).c, (vbin P op t (e.arg x) (e.arg y)).v⟩
  | .unOp op _ x => ⟨e.argc x ∧ (vUn op (e.arg x)).c, (vUn op (e.arg x)).v⟩
  | .convert s d x => ⟨e.argc x ∧ (vConv P s d (e.arg x)).c, (vConv P s d (e.arg x)).v⟩
  | .makeFunc (.func f) first caps => ⟨first.size = 0 ∧ (∀ x ∈ caps.toList, e.argc x), .fn f (caps.toList.map e.arg)⟩
  | .slice t x lo hi none => ⟨e.argc x ∧ (∀ y ∈ lo.toList ++ hi.toList, e.argc y) ∧ (vSlice P t (e.arg x) (lo.map e.arg) (hi.map e.arg)).c, (vSlice P t (e.arg x) (lo.map e.arg) (hi.map e.arg)).v⟩
  | .fieldAddr t x f => ⟨e.argc x ∧ (vField P t f (e.arg x)).c, (vField P t f (e.arg x)).v⟩
  | .field t x f => ⟨e.argc x ∧ (vFieldV P t (e.arg x) f).c, (vFieldV P t (e.arg x) f).v⟩
  | .indexAddr t x i => ⟨e.argc x ∧ e.argc i ∧ (vIndexAddr P t (e.arg x) (e.arg i)).c, (vIndexAddr P t (e.arg x) (e.arg i)).v⟩
  | .index t x i => ⟨e.argc x ∧ e.argc i ∧ (vIndex P t (e.arg x) (e.arg i)).c, (vIndex P t (e.arg x) (e.arg i)).v⟩
  | .lookup t x i ok => ⟨e.argc x ∧ e.argc i ∧ (vLookup P e.st t (e.arg x) (e.arg i) ok).c, (vLookup P e.st t (e.arg x) (e.arg i) ok).v⟩
  | .extract x i => ⟨e.argc x ∧ (vExtract (e.arg x) i).c, (vExtract (e.arg x) i).v⟩
  | .call ⟨.builtin b, args, ts⟩ => match b, args.toList, ts.toList with
    | .len, [x], [t] => ⟨e.argc x ∧ (vLen P e.st t (e.arg x)).c, (vLen P e.st t (e.arg x)).v⟩
    | .max, [x, y], _ => ⟨e.argc x ∧ e.argc y ∧ (vMax (e.arg x) (e.arg y)).c, (vMax (e.arg x) (e.arg y)).v⟩
    | .min, [x, y], _ => ⟨e.argc x ∧ e.argc y ∧ (vMin (e.arg x) (e.arg y)).c, (vMin (e.arg x) (e.arg y)).v⟩
    | _, _, _ => .no
  | _ => .no
section
variable {P : Program} {W : World} {D : Nat → Nat → Prop} {β : Nat → Option Nat} {e : Env} {a : Act}
theorem pickv_ok {c x y : AV} {vc vx vy : Value} (hc : Rep W D β vc c) (hx : Rep W D β vx x) (hy : Rep W D β vy y) (h : (pickv c x y).c) :
    ∃ t, vc = .bool t ∧ Rep W D β (if t then vx else vy) (pickv c x y).v := by
  unfold pickv at h ⊢
  split at h
  · rename_i t p q h1 h2 h3
    obtain ⟨g1, g2, g3⟩ := h
    have kc := hc.core g1
    rw [h1] at kc
    obtain rfl := rep_bool kc
    refine ⟨t, rfl, ?_⟩
    cases t
    · have := hy.core (g3 rfl)
      rw [h3] at this
      simpa using this
    · have := hx.core (g2 rfl)
      rw [h2] at this
      simpa using this
  · rename_i t h1 h2
    obtain ⟨g1, g2, g3⟩ := h
    have kc := hc.core g1
    rw [h1] at kc
    obtain rfl := rep_bool kc
    refine ⟨t, rfl, ?_⟩
    cases t
    · have := hy.core (g3 rfl)
      simpa using this
    · have := hx.core (g2 rfl)
      simpa using this
  · exact h.elim
theorem vNil_ok {v : Value} {x : AV} (hx : Rep W D β v x) (hc : (vNil x).c) : (vNil x).v = x ∧ ((∃ p, v = .pointer (some p)) ∨ ∃ f vs, v = .func (.func f) #[] vs) := by
  cases x <;> simp only [vNil] at hc ⊢ <;> try exact hc.elim
  · refine ⟨trivial, .inl ?_⟩
    cases hx with
    | data _ _ hd => cases hd with | dptr p => exact ⟨p, rfl⟩
  · refine ⟨trivial, .inl ?_⟩
    cases hx with
    | data _ _ hd => cases hd
    | ptr r w i j g hg => exact ⟨_, rfl⟩
  · refine ⟨trivial, .inr ?_⟩
    cases hx with
    | data _ _ hd => cases hd with | fn => exact ⟨_, _, rfl⟩
    | fn => exact ⟨_, _, rfl⟩
theorem rep_caps {xs : List Operand} (h : Fine W D β e a) (hc : ∀ x ∈ xs, e.argc x) : ∀ (i : Nat) (y : AV), (xs.map e.arg)[i]? = some y → Rep W D β ((xs.map a.eval).getD i undef) y := by
  intro i y hy
  rw [List.getElem?_map] at hy
  cases hx : xs[i]? with
  | none => simp [hx] at hy
  | some x =>
    simp only [hx, Option.map_some, Option.some.injEq] at hy
    subst hy
    simp only [List.getD_eq_getElem?_getD, List.getElem?_map, hx, Option.map_some, Option.getD_some]
    exact h.arg (hc x (List.mem_of_getElem? hx))
theorem opv_ok {o : Oper} (h : Fine W D β e a) (hc : (opv P e o.op).c) : ∃ v, (execOp a.eval o).run P W = .ok (.value v) W ∧ Rep W D β v (opv P e o.op).v := by
  obtain ⟨dst, op, ty, pos, after, guard⟩ := o
  simp only at hc ⊢
  unfold opv at hc ⊢
  split at hc <;> simp only [execOp]
  · exact ⟨_, rfl, h.arg hc⟩
  · exact ⟨_, rfl, h.arg hc⟩
  · rename_i c x y
    obtain ⟨t, ht, hr⟩ := pickv_ok (h.ev c) (h.ev x) (h.ev y) hc
    exact ⟨_, by simp [ht, asBool], hr⟩
  · rename_i t x
    obtain ⟨h1, h2, h3⟩ := hc
    obtain ⟨u, hu, hr⟩ := load_ok (behind_ok h.rt (h.arg h1) h2) h3
    exact ⟨u, by simp [hu], hr⟩
  · rename_i x
    obtain ⟨h1, h2⟩ := hc
    have hx := h.arg h1
    obtain ⟨h3, h4⟩ := vNil_ok (W := W) hx h2
    rcases h4 with ⟨p, hp⟩ | ⟨f, vs, hp⟩
    · exact ⟨_, by rw [hp]; rfl, by rw [← hp, h3]; exact hx⟩
    · exact ⟨_, by rw [hp]; rfl, by rw [← hp, h3]; exact hx⟩
  · rename_i op t x y _
    obtain ⟨h1, h2, h3⟩ := hc
    obtain ⟨u, ⟨k1, k2⟩, k3⟩ := vbin_ok (ox := x) (oy := y) (h.arg h1) (h.arg h2) h3
    exact ⟨u, by simp [k1, k2], k3⟩
  · rename_i op _ x
    obtain ⟨h1, h2⟩ := hc
    obtain ⟨u, k1, k2⟩ := vUn_ok (P := P) (h.arg h1) h2
    exact ⟨u, by simp [k1], k2⟩
  · obtain ⟨h1, h2⟩ := hc
    obtain ⟨u, k1, k2⟩ := vConv_ok (P := P) (h.arg h1) h2
    exact ⟨u, by simp [k1], k2⟩
  · rename_i f first caps
    obtain ⟨h1, h2⟩ := hc
    have hf : first = #[] := Array.eq_empty_of_size_eq_zero h1
    subst hf
    have hr := rep_caps h h2
    refine ⟨.func (.func f) #[] (caps.map a.eval), by simp [Instr.makeFunc], .fn f _ _ (fun i => (caps.toList.map a.eval).getD i undef) (by simp) (fun i y hy => ?_) hr⟩
    have hi : i < caps.size := by
      have := (List.getElem?_eq_some_iff.1 hy).1
      simpa using this
    simp [hi]
  · rename_i t x lo hi
    obtain ⟨h1, h2, h3⟩ := hc
    have hl : RepO W D β (lo.map a.eval) (lo.map e.arg) := by
      cases lo with
      | none => trivial
      | some y => exact h.arg (h2 y (by simp))
    have hh : RepO W D β (hi.map a.eval) (hi.map e.arg) := by
      cases hi with
      | none => trivial
      | some y => exact h.arg (h2 y (by simp))
    obtain ⟨u, k1, k2⟩ := vSlice_ok (P := P) (h.arg h1) hl hh h3
    exact ⟨u, by simp [k1], k2⟩
  · obtain ⟨h1, h2⟩ := hc
    obtain ⟨u, k1, k2⟩ := vField_ok (P := P) (h.arg h1) h2
    exact ⟨u, by simp [k1], k2⟩
  · obtain ⟨h1, h2⟩ := hc
    obtain ⟨u, k1, k2⟩ := vFieldV_ok (P := P) (h.arg h1) h2
    exact ⟨u, by simp [k1], k2⟩
  · obtain ⟨h1, h2, h3⟩ := hc
    obtain ⟨u, k1, k2⟩ := vIndexAddr_ok (P := P) (h.arg h1) (h.arg h2) h3
    exact ⟨u, by simp [k1], k2⟩
  · obtain ⟨h1, h2, h3⟩ := hc
    obtain ⟨u, k1, k2⟩ := vIndex_ok (P := P) (h.arg h1) (h.arg h2) h3
    exact ⟨u, by simp [k1], k2⟩
  · obtain ⟨h1, h2, h3⟩ := hc
    obtain ⟨u, k1, k2⟩ := vLookup_ok (P := P) h.rt (h.arg h1) (h.arg h2) h3
    exact ⟨u, by simp [k1], k2⟩
  · obtain ⟨h1, h2⟩ := hc
    obtain ⟨u, k1, k2⟩ := vExtract_ok (P := P) (h.arg h1) h2
    exact ⟨u, by simp [k1], k2⟩
  · rename_i b args ts
    split at hc
    · rename_i x t ha ht
      obtain rfl : args = #[x] := by rw [← Array.toList_inj, ha]
      obtain rfl : ts = #[t] := by rw [← Array.toList_inj, ht]
      obtain ⟨h1, h2⟩ := hc
      obtain ⟨u, k1, k2⟩ := vLen_ok (P := P) (ty := ty) h.rt (h.arg h1) h2
      exact ⟨u, by simp [resolve, invoke, builtin, k1], k2⟩
    · rename_i x y ha
      obtain rfl : args = #[x, y] := by rw [← Array.toList_inj, ha]
      obtain ⟨h1, h2, h3⟩ := hc
      have hx := h.arg h1
      have hy := h.arg h2
      cases hv : e.arg x <;> cases hw : e.arg y <;> simp only [hv, hw, vMax] at h3 hx hy ⊢ <;> try exact h3.elim
      have ex := rep_int hx
      have ey := rep_int hy
      exact ⟨_, by simp [resolve, invoke, builtin, ex, ey, run_max_int2], .data _ _ (.int ..)⟩
    · rename_i x y ha
      obtain rfl : args = #[x, y] := by rw [← Array.toList_inj, ha]
      obtain ⟨h1, h2, h3⟩ := hc
      have hx := h.arg h1
      have hy := h.arg h2
      cases hv : e.arg x <;> cases hw : e.arg y <;> simp only [hv, hw, vMin] at h3 hx hy ⊢ <;> try exact h3.elim
      have ex := rep_int hx
      have ey := rep_int hy
      exact ⟨_, by simp [resolve, invoke, builtin, ex, ey, run_min_int2], .data _ _ (.int ..)⟩
    · exact hc.elim
  · exact hc.elim
theorem nth_mem {xs : List AV} {i : Nat} (h : i < xs.length) : nth xs i ∈ xs := List.mem_of_getElem? (nth_some h)
theorem names_nth {xs : List AV} {i q : Nat} (h : Names (nth xs i) q) : ∃ y ∈ xs, Names y q := by
  by_cases hi : i < xs.length
  · exact ⟨_, nth_mem hi, h⟩
  · simp only [nth, List.getD_eq_getElem?_getD, List.getElem?_eq_none (Nat.le_of_not_lt hi), Option.getD_none] at h
    cases h
theorem names_take {cs : List AV} {n q : Nat} (h : Names (.agg (cs.take n)) q) : Names (.agg cs) q := by
  cases h with | agg _ y _ hy hn => exact .agg _ y _ (List.mem_of_mem_take hy) hn
theorem names_drop {cs : List AV} {n q : Nat} (h : Names (.agg (cs.drop n)) q) : Names (.agg cs) q := by
  cases h with | agg _ y _ hy hn => exact .agg _ y _ (List.mem_of_mem_drop hy) hn
theorem names_zero {t q : Nat} (h : Names (zeroAV P t) q) : False := by
  unfold zeroAV at h
  split at h
  · exact names_ofValue h
  · cases h
theorem kvFind_mem {k : AV} : ∀ {kv : List (AV × AV)} {x : AV}, kvFind kv k = some (some x) → ∃ k', (k', x) ∈ kv
  | [], x, h => by simp [kvFind] at h
  | (k', y) :: kv, x, h => by
    simp only [kvFind] at h
    cases hc : cellEq k k' with
    | none => simp [hc] at h
    | some b =>
      cases hf : kvFind kv k with
      | none => simp [hc, hf] at h
      | some r =>
        simp only [hc, hf, Option.some.injEq] at h
        cases b
        · simp only [cond_false] at h
          subst h
          obtain ⟨k'', hk⟩ := kvFind_mem hf
          exact ⟨k'', List.mem_cons_of_mem _ hk⟩
        · simp only [cond_true, Option.some.injEq] at h
          subst h
          exact ⟨k', List.mem_cons_self ..⟩
theorem vbin_names {op : BinOp} {t : Nat} {x y : AV} {q : Nat} (hn : Names (vbin P op t x y).v q) : False := by
  unfold vbin at hn
  split at hn
  · cases op <;> simp only [vIntBin, OpR.no] at hn <;> cases hn
  · cases op <;> simp only [vStrBin, OpR.no] at hn <;> cases hn
  all_goals
    first
      | (split at hn <;> cases hn)
      | cases hn
theorem opv_names {op : Op} (h : Fine W D β e a) (hc : (opv P e op).c) {q : Nat} (hn : Names (opv P e op).v q) : q < e.st.length := by
  unfold opv at hc hn
  split at hc <;> simp only at hn
  · exact h.names' _ hc hn
  · exact h.names' _ hc hn
  · rename_i c x y
    unfold pickv at hn hc
    split at hn
    · cases hn
    · rename_i t h1 h2
      rw [h1] at hc
      have hc' : (e.ev c).gc = true ∧ (t = true → (e.ev x).gc = true) ∧ (t = false → (e.ev y).gc = true) := by
        split at hc
        · rename_i a1 a2 a3 b1 b2 b3
          injection b1 with b1
          subst b1
          exact hc
        · rename_i a1 a2 a3 b1 b2
          injection b1 with b1
          subst b1
          exact hc
        · exact hc.elim
      cases t
      · exact h.names' y (hc'.2.2 rfl) hn
      · exact h.names' x (hc'.2.1 rfl) hn
    · cases hn
  · rename_i t x
    obtain ⟨h1, h2, h3⟩ := hc
    have key : ∀ y ∈ (behind e.st (e.arg x)).2, Names y q → q < e.st.length := fun y hy hq => behind_names h.rt h.bx (h.arg h1) h2 hy hq
    unfold ldv at hn
    split at hn
    · have := names_take hn
      cases this with | agg _ y _ hy hq => exact key y hy hq
    · cases hn
    · generalize (behind e.st (e.arg x)).2 = cs at *
      cases cs with
      | nil => cases hn
      | cons c cs => exact key c (List.mem_cons_self ..) hn
  · rename_i x
    obtain ⟨h1, h2⟩ := hc
    rw [(vNil_ok (h.arg h1) h2).1] at hn
    exact h.names' _ h1 hn
  · obtain ⟨h1, h2, h3⟩ := hc
    exact (vbin_names hn).elim
  · unfold vUn at hn
    split at hn <;> cases hn
  · unfold vConv at hn
    split at hn <;> cases hn
  · rename_i f first caps
    cases hn with
    | fn _ _ y _ hy hq =>
      obtain ⟨x, hxm, rfl⟩ := List.mem_map.1 hy
      exact h.names' _ (hc.2 _ hxm) hq
  · rename_i t x lo hi
    have hx := fun q hq => h.names' (e := e) x hc.1 (q := q) hq
    unfold vSlice at hn
    split at hn <;> try cases hn
    rename_i hv
    exact hx q (by rw [hv]; exact .osl ..)
  · rename_i t x f
    have hx := fun q hq => h.names' (e := e) x hc.1 (q := q) hq
    unfold vField at hn
    split at hn <;> try cases hn
    split at hn <;> try cases hn
    rename_i hv
    exact hx q (by rw [hv]; exact .ptr ..)
  · rename_i t x f
    have hx := fun q hq => h.names' (e := e) x hc.1 (q := q) hq
    unfold vFieldV at hn
    split at hn <;> try cases hn
    rename_i off ft cs hf hv
    rw [hv] at hx
    split at hn
    · exact hx q (names_drop (names_take hn))
    · cases hn
    · obtain ⟨y, hy, hq⟩ := names_nth hn
      exact hx q (.agg _ y _ hy hq)
  · rename_i t x i
    have hx := fun q hq => h.names' (e := e) x hc.1 (q := q) hq
    unfold vIndexAddr at hn
    split at hn <;> try cases hn
    exact hx q (by rw [‹e.arg x = _›]; exact .osl ..)
  · unfold vIndex at hn
    split at hn <;> cases hn
  · rename_i t x i ok
    obtain ⟨h1, h2, h3⟩ := hc
    unfold vLookup at hn h3
    split at hn <;> try cases hn
    rename_i kt et r ht hv
    simp only [hv] at h3
    split at hn <;> try cases hn
    rename_i kv hr
    split at hn <;> try cases hn
    rename_i o ho
    have val : ∀ {x : AV}, o = some x → Names x q → False := by
      intro x hx hq
      subst hx
      obtain ⟨k', hk⟩ := kvFind_mem ho
      obtain ⟨i, hi⟩ := List.mem_iff_getElem?.1 hk
      obtain ⟨g, es, clk, k1, k2, k3, k4⟩ := h.rt r _ hr
      obtain ⟨e0, _, _, hd⟩ := k4 i _ _ hi
      exact hd.noNames hq
    have get : ∀ {q}, Names (o.getD (zeroAV P et)) q → (∀ {x : AV}, o = some x → Names x q → False) → False := by
      intro q hq hv
      cases o with
      | none => exact names_zero hq
      | some x => exact hv rfl hq
    cases ok
    · simp only [cond_false] at hn
      exact (get hn val).elim
    · simp only [cond_true] at hn
      cases hn with
      | tup _ y _ hy hq =>
        simp only [List.mem_cons, List.not_mem_nil, or_false] at hy
        rcases hy with rfl | rfl
        · exact (get hq val).elim
        · cases hq
  · rename_i x i
    have hx := fun q hq => h.names' (e := e) x hc.1 (q := q) hq
    unfold vExtract at hn
    split at hn <;> try cases hn
    rename_i xs hv
    rw [hv] at hx
    obtain ⟨y, hy, hq⟩ := names_nth hn
    exact hx q (.tup _ y _ hy hq)
  · split at hn
    · rename_i x t ha ht
      unfold vLen at hn
      split at hn <;> try cases hn
      split at hn <;> cases hn
    · unfold vMax at hn
      split at hn <;> cases hn
    · unfold vMin at hn
      split at hn <;> cases hn
    · cases hn
  · cases hn
end
end Go.Ve
namespace Go.Ve
open Go.RowKit
set_option linter.unusedVariables false
set_option linter.unusedSimpArgs false
/-- Where a call began: the memory, the regions, the blocks handed over for writing; regions from n on may grow; the first k roots are those handed over: they keep their blocks. -/
structure Ctx where
  W : World
  D : Nat → Nat → Prop
  O : Nat → Prop
  n : Nat
  β : Nat → Option Nat
  k : Nat
/-- A row of cells no part of which is frozen for good. -/
def Thaw (W : World) (b : Nat) : Prop := ∃ (cur : Array Value) (t : Nat), W.heap[b]? = some (.cells cur t (0, 0))
theorem Thaw.keeps {W W' : World} {b : Nat} (h : Thaw W b) (k : Keeps W W') : Thaw W' b :=
  let ⟨cur, t, h1⟩ := h; let ⟨cur', h2, _⟩ := k b t cur (0, 0) h1; ⟨cur', t, h2⟩
structure MemOk (C : Ctx) (W : World) (D : Nat → Nat → Prop) (β : Nat → Option Nat) (st : List Root) : Prop where
  store : StoreOk W D β st
  os : W.os = C.W.os
  tape : W.tape = C.W.tape
  output : W.output = C.W.output
  size : C.W.heap.size ≤ W.heap.size
  frame : ∀ b, b < C.W.heap.size → ¬ C.O b → W.heap[b]? = C.W.heap[b]?
  keeps : Keeps C.W W
  dup : ∀ ρ b, C.D ρ b → D ρ b
  dfix : ∀ ρ b, ρ < C.n → D ρ b → C.D ρ b
  dnew : ∀ ρ b, D ρ b → C.D ρ b ∨ C.W.heap.size ≤ b ∨ C.O b
  thaw : ∀ ρ b, D ρ b → C.D ρ b ∨ Thaw W b
  own : ∀ r g, Live st r → β r = some g → C.W.heap.size ≤ g ∨ C.O g
  lt : ∀ ρ b, D ρ b → b < W.heap.size
  sep : ∀ ρ ρ' b, D ρ b → D ρ' b → ρ = ρ'
  hand : ∀ r, r < C.k → β r = C.β r
  kst : C.k ≤ st.length
structure St (C : Ctx) (sz : Nat) (e : Env) (a : Act) (W : World) (D : Nat → Nat → Prop) (β : Nat → Option Nat) : Prop where
  mem : MemOk C W D β e.st
  tm : ∀ i, Rep W D β (a.tmps.getD i undef) (tv e.tm i)
  nm : ∀ i q, Names (tv e.tm i) q → q < e.st.length
  bx : ∀ (r t : Nat) (cs : List AV) (y : AV) (q : Nat), e.st[r]? = some (Root.box t cs) → y ∈ cs → Names y q → q < e.st.length
  dd : a.defers = []
  sz : a.tmps.size = sz
def Env.put (e : Env) (d : Option Nat) (x : AV) : Env :=
  match d with
  | some i => ⟨(i, x) :: e.tm, e.st⟩
  | none => e
section
variable {C : Ctx} {sz : Nat} {e : Env} {a : Act} {W W' : World} {D D' : Nat → Nat → Prop} {β β' : Nat → Option Nat}
theorem St.fine (h : St C sz e a W D β) : Fine W D β e a := ⟨h.tm, h.nm, h.mem.store.root, h.bx⟩
theorem getD_put (a : Act) (d : Nat) (v : Value) (hd : d < a.tmps.size) (i : Nat) : (a.put (some d) v).tmps.getD i undef = if d = i then v else a.tmps.getD i undef := by
  simp only [Act.put, Array.getD_eq_getD_getElem?, Array.getElem?_setIfInBounds]
  split <;> simp_all
theorem St.put (h : St C sz e a W D β) {dst : Option Nat} (hd : ∀ d, dst = some d → d < sz) {v : Value} {x : AV} (hx : Rep W D β v x) (hn : ∀ q, Names x q → q < e.st.length) : St C sz (e.put dst x) (a.put dst v) W D β := by
  cases dst with
  | none => exact h
  | some d =>
    have hlt : d < a.tmps.size := by rw [h.sz]; exact hd d rfl
    refine ⟨h.mem, fun i => ?_, fun i q => ?_, h.bx, h.dd, by simp [Act.put, h.sz]⟩
    · rw [getD_put a d v hlt i]
      simp only [Env.put, tv]
      split
      · exact hx
      · exact h.tm i
    · simp only [Env.put, tv]
      split
      · exact hn q
      · exact h.nm i q
theorem RootOk.mv {ok : Nat → Prop} (h : Mv W W' D D' β β' ok) {r : Nat} {R : Root} (hr : RootOk W D β r R) (hβ : β' r = β r) (hb : ∀ g, β r = some g → W'.heap[g]? = W.heap[g]?)
    (hn : ∀ t cs y q, R = .box t cs → y ∈ cs → Names y q → ok q) : RootOk W' D' β' r R := by
  cases R with
  | gone => trivial
  | row t w xs =>
    rcases hr with ⟨h1, h2⟩ | ⟨g, cur, h1, h2, h3⟩
    · exact .inl ⟨hβ.trans h1, h2⟩
    · exact .inr ⟨g, cur, hβ.trans h1, (hb g h1).trans h2, fun i x hx => ⟨(h3 i x hx).1, fun j y hy => let ⟨u, k1, k2⟩ := (h3 i x hx).2 j y hy; ⟨u, k1, k2.mono h.data⟩⟩⟩
  | box t cs =>
    obtain ⟨g, cur, h1, h2, h3, h4⟩ := hr
    exact ⟨g, cur, hβ.trans h1, (hb g h1).trans h2, h3, fun j y hy => let ⟨u, k1, k2, k3⟩ := h4 j y hy; ⟨u, k1, k2, k3.mv h fun q hq => hn t cs y q rfl (List.mem_of_getElem? hy) hq⟩⟩
  | mp kv =>
    obtain ⟨g, es, clk, h1, h2, h3, h4⟩ := hr
    exact ⟨g, es, clk, hβ.trans h1, (hb g h1).trans h2, h3, fun i k x hx => let ⟨e, k1, k2, k3⟩ := h4 i k x hx; ⟨e, k1, k2.mono h.data, k3.mono h.data⟩⟩
theorem live_lt {st : List Root} {r : Nat} (h : Live st r) : r < st.length := by
  obtain ⟨R, h1, _⟩ := h
  exact (List.getElem?_eq_some_iff.1 h1).1
theorem live_app {st : List Root} {R : Root} {r : Nat} (h : Live (st ++ [R]) r) : r = st.length ∨ Live st r := by
  by_cases hr : r < st.length
  · obtain ⟨R', h1, h2⟩ := h
    rw [List.getElem?_append_left hr] at h1
    exact .inr ⟨R', h1, h2⟩
  · have := live_lt h
    simp at this
    exact .inl (by omega)
/-- The block of a live root is there. -/
theorem block_lt {st : List Root} (hs : ∀ r R, st[r]? = some R → RootOk W D β r R) {r g : Nat} (hl : Live st r) (hg : β r = some g) : g < W.heap.size := by
  obtain ⟨R, h1, h2⟩ := hl
  have := hs r R h1
  cases R with
  | gone => exact absurd rfl h2
  | row t w xs =>
    rcases this with ⟨h3, _⟩ | ⟨g', cur, h3, h4, _⟩
    · rw [hg] at h3; cases h3
    · rw [hg] at h3; injection h3 with h3; subst h3
      exact (Array.getElem?_eq_some_iff.1 h4).1
  | box t cs =>
    obtain ⟨g', cur, h3, h4, _⟩ := this
    rw [hg] at h3; injection h3 with h3; subst h3
    exact (Array.getElem?_eq_some_iff.1 h4).1
  | mp kv =>
    obtain ⟨g', es, clk, h3, h4, _⟩ := this
    rw [hg] at h3; injection h3 with h3; subst h3
    exact (Array.getElem?_eq_some_iff.1 h4).1
theorem ha_old (W : World) (o : Obj) (k : Nat) (hk : k < W.heap.size) : (W.alloc o).heap[k]? = W.heap[k]? := Below.heap_alloc W o k hk
theorem ha_new (W : World) (o : Obj) : (W.alloc o).heap[W.heap.size]? = some o := by show (W.heap.push o)[W.heap.size]? = _; simp
def upd (β : Nat → Option Nat) (r g : Nat) : Nat → Option Nat := fun q => if q = r then some g else β q
theorem keeps_alloc (W : World) (o : Obj) : Keeps W (W.alloc o) := fun b t cur fr h => ⟨cur, by
  rw [ha_old W o b (Array.getElem?_eq_some_iff.1 h).1]; exact h, rfl⟩
theorem mv_alloc (W : World) (o : Obj) (D : Nat → Nat → Prop) (hlt : ∀ ρ b, D ρ b → b < W.heap.size) (β β' : Nat → Option Nat) (ok : Nat → Prop) (hs : ∀ r, ok r → β' r = β r) : Mv W (W.alloc o) D D β β' ok :=
  ⟨fun ρ b hb => ⟨ha_old W o b (hlt ρ b hb), hb⟩, keeps_alloc W o, hs⟩
/-- A new block, and with it a new root. -/
theorem St.alloc (h : St C sz e a W D β) (o : Obj) (R : Root) (hR : RootOk (W.alloc o) D (upd β e.st.length W.heap.size) e.st.length R)
    (hb : ∀ t cs y q, R = .box t cs → y ∈ cs → Names y q → q < e.st.length) : St C sz ⟨e.tm, e.st ++ [R]⟩ a (W.alloc o) D (upd β e.st.length W.heap.size) := by
  have hmv := mv_alloc W o D h.mem.lt β (upd β e.st.length W.heap.size) (· < e.st.length) (fun r hr => by simp [upd]; omega)
  have hlt := @block_lt W D β e.st h.mem.store.root
  have size : (W.alloc o).heap.size = W.heap.size + 1 := by simp
  refine ⟨⟨⟨fun r R' hr => ?_, fun r r' g h1 h2 h3 h4 => ?_, fun r g ρ h1 h2 h3 => ?_⟩, h.mem.os, h.mem.tape, h.mem.output, by rw [size]; have := h.mem.size; omega, fun b hb hO => ?_, h.mem.keeps.trans (keeps_alloc W o), h.mem.dup, h.mem.dfix, h.mem.dnew, fun ρ b hb => (h.mem.thaw ρ b hb).imp_right fun k => k.keeps (keeps_alloc W o), fun r g h1 h2 => ?_, fun ρ b hb => by rw [size]; have := h.mem.lt ρ b hb; omega, h.mem.sep, fun r hr => by have := h.mem.kst; simp only [upd]; rw [if_neg (by omega)]; exact h.mem.hand r hr, by have := h.mem.kst; simp; omega⟩, fun i => ?_, fun i q hq => ?_, fun r t cs y q hr hy hq => ?_, h.dd, h.sz⟩
  · by_cases hlr : r < e.st.length
    · rw [List.getElem?_append_left hlr] at hr
      by_cases hgone : R' = .gone
      · subst hgone; trivial
      exact (h.mem.store.root r R' hr).mv hmv (by simp [upd]; omega) (fun g hg => ha_old W o g (hlt ⟨R', hr, hgone⟩ hg)) (fun t cs y q hR' hy hq => h.bx r t cs y q (hR' ▸ hr) hy hq)
    · have hl := (List.getElem?_eq_some_iff.1 hr).1
      simp at hl
      obtain rfl : r = e.st.length := by omega
      simp at hr
      subst hr
      exact hR
  · rcases live_app h1 with rfl | h1 <;> rcases live_app h2 with rfl | h2
    · rfl
    · have := live_lt h2
      simp only [upd, if_true, if_neg (by omega : ¬ r' = e.st.length)] at h3 h4
      injection h3 with h3
      have := hlt h2 h4
      omega
    · have := live_lt h1
      simp only [upd, if_true, if_neg (by omega : ¬ r = e.st.length)] at h3 h4
      injection h4 with h4
      have := hlt h1 h3
      omega
    · have l1 := live_lt h1
      have l2 := live_lt h2
      simp only [upd, if_neg (by omega : ¬ r = e.st.length), if_neg (by omega : ¬ r' = e.st.length)] at h3 h4
      exact h.mem.store.inj r r' g h1 h2 h3 h4
  · rcases live_app h1 with rfl | h1
    · simp only [upd, if_true] at h2
      injection h2 with h2
      have := h.mem.lt ρ g h3
      omega
    · have := live_lt h1
      simp only [upd, if_neg (by omega : ¬ r = e.st.length)] at h2
      exact h.mem.store.far r g ρ h1 h2 h3
  · rw [ha_old W o b (by have := h.mem.size; omega)]
    exact h.mem.frame b hb hO
  · rcases live_app h1 with rfl | h1
    · simp only [upd, if_true] at h2
      injection h2 with h2
      have := h.mem.size
      exact .inl (by omega)
    · have := live_lt h1
      simp only [upd, if_neg (by omega : ¬ r = e.st.length)] at h2
      exact h.mem.own r g h1 h2
  · exact (h.tm i).mv hmv (fun q hq => h.nm i q hq)
  · have := h.nm i q hq
    simp; omega
  · simp
    by_cases hlr : r < e.st.length
    · rw [List.getElem?_append_left hlr] at hr
      have := h.bx r t cs y q hr hy hq
      omega
    · have hl := (List.getElem?_eq_some_iff.1 hr).1
      simp at hl
      obtain rfl : r = e.st.length := by omega
      simp at hr
      have := hb t cs y q hr hy hq
      omega
theorem live_set_gone {st : List Root} {r q : Nat} (h : Live (st.set r .gone) q) : Live st q ∧ q ≠ r := by
  obtain ⟨R, h1, h2⟩ := h
  by_cases hq : r = q
  · subst hq
    have hl := (List.getElem?_eq_some_iff.1 h1).1
    rw [List.length_set] at hl
    simp [hl] at h1
    exact absurd h1.symm h2
  · rw [List.getElem?_set_ne hq] at h1
    exact ⟨⟨R, h1, h2⟩, fun e => hq e.symm⟩
theorem MemOk.gone {st : List Root} (h : MemOk C W D β st) (r : Nat) : MemOk C W D β (st.set r .gone) := by
  refine ⟨⟨fun q R hq => ?_, fun q q' g h1 h2 => h.store.inj q q' g (live_set_gone h1).1 (live_set_gone h2).1, fun q g ρ h1 => h.store.far q g ρ (live_set_gone h1).1⟩, h.os, h.tape, h.output, h.size, h.frame, h.keeps, h.dup, h.dfix, h.dnew, h.thaw, fun q g h1 => h.own q g (live_set_gone h1).1, h.lt, h.sep, h.hand, by simpa using h.kst⟩
  by_cases hqr : r = q
  · subst hqr
    have hl := (List.getElem?_eq_some_iff.1 hq).1
    rw [List.length_set] at hl
    simp [hl] at hq
    subst hq
    trivial
  · rw [List.getElem?_set_ne hqr] at hq
    exact h.store.root q R hq
/-- A root is given up. -/
theorem St.gone (h : St C sz e a W D β) (r : Nat) : St C sz ⟨e.tm, e.st.set r .gone⟩ a W D β :=
  ⟨h.mem.gone r, h.tm, fun i q hq => by simpa using h.nm i q hq, fun q t cs y p hr hy hp => by
    by_cases hqr : r = q
    · subst hqr
      have hl := (List.getElem?_eq_some_iff.1 hr).1
      simp at hl
      simp [hl] at hr
    · rw [List.getElem?_set_ne hqr] at hr
      simpa using h.bx q t cs y p hr hy hp, h.dd, h.sz⟩
theorem MemOk.drew {st : List Root} (h : MemOk C W D β st) : MemOk C W.drew D β st := by
  have hmv : Mv W W.drew D D β β (fun _ => True) := ⟨fun ρ b hb => ⟨rfl, hb⟩, fun b t cur fr hb => ⟨cur, hb, rfl⟩, fun _ _ => rfl⟩
  exact ⟨⟨fun r R hr => (h.store.root r R hr).mv hmv rfl (fun _ _ => rfl) (fun _ _ _ _ _ _ _ => trivial), h.store.inj, h.store.far⟩, h.os, h.tape, h.output, h.size, h.frame, h.keeps, h.dup, h.dfix, h.dnew, h.thaw, h.own, h.lt, h.sep, h.hand, h.kst⟩
/-- An answer is drawn. -/
theorem St.drew (h : St C sz e a W D β) : St C sz e a W.drew D β := by
  have hmv : Mv W W.drew D D β β (fun _ => True) := ⟨fun ρ b hb => ⟨rfl, hb⟩, fun b t cur fr hb => ⟨cur, hb, rfl⟩, fun _ _ => rfl⟩
  exact ⟨h.mem.drew, fun i => (h.tm i).mv hmv (fun _ _ => trivial), h.nm, h.bx, h.dd, h.sz⟩
theorem live_set {st : List Root} {r q : Nat} {R R' : Root} (hr : st[r]? = some R) (hR : R ≠ .gone) (h : Live (st.set r R') q) : Live st q := by
  by_cases hq : r = q
  · subst hq; exact ⟨R, hr, hR⟩
  · obtain ⟨R0, h1, h2⟩ := h
    rw [List.getElem?_set_ne hq] at h1
    exact ⟨R0, h1, h2⟩
/-- The block of a live root is written: a row of cells of the same size. -/
theorem St.write (h : St C sz e a W D β) {r g t : Nat} {R R' : Root} (hr : e.st[r]? = some R) (hR : R ≠ .gone) (hg : β r = some g) {cur cur' : Array Value} (hc : W.heap[g]? = some (.cells cur t (0, 0))) (hs : cur'.size = cur.size)
    (hR' : RootOk (W.setRow g cur') D β r R') (hb : ∀ t cs y q, R' = .box t cs → y ∈ cs → Names y q → q < e.st.length) : St C sz ⟨e.tm, e.st.set r R'⟩ a (W.setRow g cur') D β := by
  have hlive : Live e.st r := ⟨R, hr, hR⟩
  have hlt := @block_lt W D β e.st h.mem.store.root
  have other : ∀ b, b ≠ g → (W.setRow g cur').heap[b]? = W.heap[b]? := fun b hb => setRow_other W g b cur' hb
  have same := setRow_heap W g cur cur' t (0, 0) hc
  have keep : Keeps W (W.setRow g cur') := fun b t' c fr hb => by
    by_cases hbg : b = g
    · subst hbg
      rw [hc] at hb
      injection hb with hb
      injection hb with h1 h2 h3
      subst h1 h2 h3
      exact ⟨cur', same, hs⟩
    · exact ⟨c, (other b hbg).trans hb, rfl⟩
  have hmv : Mv W (W.setRow g cur') D D β β (fun _ => True) := ⟨fun ρ b hb => ⟨other b (fun e0 => h.mem.store.far r g ρ hlive hg (e0 ▸ hb)), hb⟩, keep, fun _ _ => rfl⟩
  have hrl : r < e.st.length := live_lt hlive
  refine ⟨⟨⟨fun q R0 hq => ?_, fun q q' g' h1 h2 => h.mem.store.inj q q' g' (live_set hr hR h1) (live_set hr hR h2), fun q g' ρ h1 => h.mem.store.far q g' ρ (live_set hr hR h1)⟩, h.mem.os, h.mem.tape, h.mem.output, by rw [setRow_size]; exact h.mem.size, fun b hb hO => ?_, h.mem.keeps.trans keep, h.mem.dup, h.mem.dfix, h.mem.dnew, fun ρ b hb => (h.mem.thaw ρ b hb).imp_right fun k => k.keeps keep, fun q g' h1 => h.mem.own q g' (live_set hr hR h1), fun ρ b hb => by rw [setRow_size]; exact h.mem.lt ρ b hb, h.mem.sep, h.mem.hand, by simpa using h.mem.kst⟩, fun i => (h.tm i).mv hmv (fun _ _ => trivial), fun i q hq => by simpa using h.nm i q hq, fun q t' cs y p hq hy hp => ?_, h.dd, h.sz⟩
  · by_cases hqr : r = q
    · subst hqr
      simp [hrl] at hq
      subst hq
      exact hR'
    · rw [List.getElem?_set_ne hqr] at hq
      by_cases hgone : R0 = .gone
      · subst hgone; trivial
      exact (h.mem.store.root q R0 hq).mv hmv rfl (fun g' hg' => other g' (fun e0 => hqr (h.mem.store.inj r q g hlive ⟨R0, hq, hgone⟩ hg (e0 ▸ hg')))) (fun _ _ _ _ _ _ _ => trivial)
  · rw [other b (fun e0 => by
      subst e0
      rcases h.mem.own r b hlive hg with h1 | h1
      · omega
      · exact hO h1)]
    exact h.mem.frame b hb hO
  · by_cases hqr : r = q
    · subst hqr
      simp [hrl] at hq
      simpa using hb t' cs y p hq hy hp
    · rw [List.getElem?_set_ne hqr] at hq
      simpa using h.bx q t' cs y p hq hy hp
/-- A live root moves to a new number. -/
theorem St.renew (h : St C sz e a W D β) {r : Nat} {R : Root} (hr : e.st[r]? = some R) (hR : R ≠ .gone) :
    ∃ β', (∀ q, q < e.st.length → β' q = β q) ∧ β' e.st.length = β r ∧ St C sz ⟨e.tm, e.st.set r .gone ++ [R]⟩ a W D β' := by
  let β' : Nat → Option Nat := fun q => if q = e.st.length then β r else β q
  have hlive : Live e.st r := ⟨R, hr, hR⟩
  have hrl := live_lt hlive
  have same : ∀ q, q < e.st.length → β' q = β q := fun q hq => by simp only [β']; rw [if_neg (by omega)]
  have newb : β' e.st.length = β r := by simp [β']
  have hmv : Mv W W D D β β' (· < e.st.length) := ⟨fun ρ b hb => ⟨rfl, hb⟩, Keeps.refl W, same⟩
  -- the root of a new number
  have back : ∀ q, Live (e.st.set r .gone ++ [R]) q → ∃ p, Live e.st p ∧ β' q = β p ∧ ((q = e.st.length ∧ p = r) ∨ (q < e.st.length ∧ p = q ∧ q ≠ r)) := by
    intro q hq
    rcases live_app hq with hq | hq
    · simp at hq
      subst hq
      exact ⟨r, hlive, newb, .inl ⟨rfl, rfl⟩⟩
    · obtain ⟨h1, h2⟩ := live_set_gone hq
      have := live_lt h1
      exact ⟨q, h1, same q this, .inr ⟨this, rfl, h2⟩⟩
  refine ⟨β', same, newb, ⟨⟨⟨fun q R0 hq => ?_, fun q q' g h1 h2 h3 h4 => ?_, fun q g ρ h1 h2 => ?_⟩, h.mem.os, h.mem.tape, h.mem.output, h.mem.size, h.mem.frame, h.mem.keeps, h.mem.dup, h.mem.dfix, h.mem.dnew, h.mem.thaw, fun q g h1 h2 => ?_, h.mem.lt, h.mem.sep, fun r hr => by have := h.mem.kst; rw [same r (by omega)]; exact h.mem.hand r hr, by have := h.mem.kst; simp; omega⟩, fun i => (h.tm i).mv hmv (fun q hq => h.nm i q hq), fun i q hq => ?_, fun q t cs y p hq hy hp => ?_, h.dd, h.sz⟩⟩
  · by_cases hql : q < e.st.length
    · rw [List.getElem?_append_left (by simpa using hql)] at hq
      by_cases hqr : r = q
      · subst hqr
        simp [hrl] at hq
        subst hq
        trivial
      · rw [List.getElem?_set_ne hqr] at hq
        exact (h.mem.store.root q R0 hq).mv hmv (same q hql) (fun _ _ => rfl) (fun t cs y p hR0 hy hp => h.bx q t cs y p (hR0 ▸ hq) hy hp)
    · have hl := (List.getElem?_eq_some_iff.1 hq).1
      simp at hl
      obtain rfl : q = e.st.length := by omega
      rw [List.getElem?_append_right (by simp)] at hq
      simp at hq
      subst hq
      have h0 := (h.mem.store.root r R hr)
      have h1 := h0.mv hmv (same r hrl) (fun _ _ => rfl) (fun t cs y p hR0 hy hp => h.bx r t cs y p (hR0 ▸ hr) hy hp)
      have hbb : β' e.st.length = β' r := newb.trans (same r hrl).symm
      cases R with
      | gone => trivial
      | row t w xs =>
        rcases h1 with ⟨k1, k2⟩ | ⟨g, cur, k1, k2⟩
        · exact .inl ⟨hbb.trans k1, k2⟩
        · exact .inr ⟨g, cur, hbb.trans k1, k2⟩
      | box t cs => obtain ⟨g, cur, k1, k2⟩ := h1; exact ⟨g, cur, hbb.trans k1, k2⟩
      | mp kv => obtain ⟨g, es, clk, k1, k2⟩ := h1; exact ⟨g, es, clk, hbb.trans k1, k2⟩
  · obtain ⟨p, p1, p2, p3⟩ := back q h1
    obtain ⟨p', p1', p2', p3'⟩ := back q' h2
    rw [p2] at h3
    rw [p2'] at h4
    have := h.mem.store.inj p p' g p1 p1' h3 h4
    omega
  · obtain ⟨p, p1, p2, _⟩ := back q h1
    rw [p2] at h2
    exact h.mem.store.far p g ρ p1 h2
  · obtain ⟨p, p1, p2, _⟩ := back q h1
    rw [p2] at h2
    exact h.mem.own p g p1 h2
  · have := h.nm i q hq
    simp; omega
  · simp
    by_cases hql : q < e.st.length
    · rw [List.getElem?_append_left (by simpa using hql)] at hq
      by_cases hqr : r = q
      · subst hqr
        simp [hrl] at hq
      · rw [List.getElem?_set_ne hqr] at hq
        have := h.bx q t cs y p hq hy hp
        omega
    · have hl := (List.getElem?_eq_some_iff.1 hq).1
      simp at hl
      obtain rfl : q = e.st.length := by omega
      rw [List.getElem?_append_right (by simp)] at hq
      simp at hq
      have := h.bx r t cs y p (hq ▸ hr) hy hp
      omega
/-- A row's block joins region m: it is never written again. -/
theorem St.freeze (h : St C sz e a W D β) {r m t w : Nat} {xs : List AV} (hr : e.st[r]? = some (.row t w xs)) (hm : C.n ≤ m) :
    ∃ D' : Nat → Nat → Prop, (∀ ρ b, D ρ b → D' ρ b) ∧ (∀ g, β r = some g → D' m g) ∧ (∀ ρ b, ρ ≠ m → D' ρ b → D ρ b) ∧ St C sz ⟨e.tm, e.st.set r .gone⟩ a W D' β := by
  have hlive : Live e.st r := ⟨_, hr, by simp⟩
  let D' : Nat → Nat → Prop := fun ρ b => D ρ b ∨ (ρ = m ∧ β r = some b)
  have up : ∀ ρ b, D ρ b → D' ρ b := fun ρ b hb => .inl hb
  have hmv : Mv W W D D' β β (fun _ => True) := ⟨fun ρ b hb => ⟨rfl, up ρ b hb⟩, Keeps.refl W, fun _ _ => rfl⟩
  have hg := h.gone r
  refine ⟨D', up, fun g hg => .inr ⟨rfl, hg⟩, fun ρ b hne hb => ?_, ⟨⟨⟨fun q R0 hq => ?_, hg.mem.store.inj, fun q g ρ h1 h2 h3 => ?_⟩, h.mem.os, h.mem.tape, h.mem.output, h.mem.size, h.mem.frame, h.mem.keeps, fun ρ b hb => up ρ b (h.mem.dup ρ b hb), fun ρ b hρ hb => ?_, fun ρ b hb => ?_, fun ρ b hb => ?_, hg.mem.own, fun ρ b hb => ?_, fun ρ ρ' b h1 h2 => ?_, h.mem.hand, by simpa using h.mem.kst⟩, fun i => (h.tm i).mv hmv (fun _ _ => trivial), hg.nm, hg.bx, h.dd, h.sz⟩⟩
  · rcases hb with hb | ⟨rfl, _⟩
    · exact hb
    · exact absurd rfl hne
  · exact (hg.mem.store.root q R0 hq).mv hmv rfl (fun _ _ => rfl) (fun _ _ _ _ _ _ _ => trivial)
  · rcases h3 with h3 | ⟨rfl, h3⟩
    · exact hg.mem.store.far q g ρ h1 h2 h3
    · obtain ⟨h4, h5⟩ := live_set_gone h1
      exact h5 (h.mem.store.inj q r g h4 hlive h2 h3)
  · rcases hb with hb | ⟨rfl, _⟩
    · exact h.mem.dfix ρ b hρ hb
    · omega
  · rcases hb with hb | ⟨rfl, hb⟩
    · exact h.mem.dnew ρ b hb
    · exact .inr (h.mem.own r b hlive hb)
  · rcases hb with hb | ⟨rfl, hb⟩
    · exact h.mem.thaw ρ b hb
    · rcases h.mem.store.root r _ hr with ⟨k1, _⟩ | ⟨g, cur, k1, k2, _⟩
      · rw [k1] at hb; cases hb
      · rw [k1] at hb; injection hb with hb; subst hb; exact .inr ⟨cur, _, k2⟩
  · rcases hb with hb | ⟨rfl, hb⟩
    · exact h.mem.lt ρ b hb
    · exact block_lt h.mem.store.root hlive hb
  · rcases h1 with h1 | ⟨rfl, h1⟩ <;> rcases h2 with h2 | ⟨rfl, h2⟩
    · exact h.mem.sep ρ ρ' b h1 h2
    · exact (h.mem.store.far r b ρ hlive h2 h1).elim
    · exact (h.mem.store.far r b ρ' hlive h1 h2).elim
    · rfl
/-- A frozen row's slice is data. -/
theorem osl_data {r t w off len m : Nat} {xs : List AV} {v : Value} (hR : RootOk W D β r (.row t w xs)) (hD : ∀ g, β r = some g → D m g) (h : Rep W D β v (.osl r w off len)) (hl : off + len ≤ xs.length) : RepD W D v (.sl m w ((xs.drop off).take len)) := by
  cases h with
  | data _ _ h => cases h
  | osl _ _ _ _ _ h =>
  have hlen : ((xs.drop off).take len).length = len := by rw [List.length_take, List.length_drop]; omega
  by_cases hz : len = 0
  · subst hz
    simp only [List.take_zero]
    rcases h with ⟨_, rfl, _⟩ | ⟨g, cap, t', cur, _, rfl, _⟩
    · exact .sl0 ..
    · exact .sl0 ..
  · rcases h with ⟨_, _, _, h⟩ | ⟨g, cap, t', cur, h1, rfl, h3, h4, h5, h6⟩
    · exact absurd h hz
    · rcases hR with ⟨k1, _⟩ | ⟨g', cur', k1, k2, k3⟩
      · rw [k1] at h1; cases h1
      · rw [h1] at k1; injection k1 with k1; subst k1
        have key : ∀ (i : Nat) (x : AV), ((xs.drop off).take len)[i]? = some x → xs[off + i]? = some x := by
          intro i x hx
          rw [List.getElem?_take] at hx
          split at hx
          · rwa [List.getElem?_drop] at hx
          · cases hx
        have := RepD.sl (W := W) (D := D) ⟨g, off * w, none⟩ cap m w ((xs.drop off).take len) (fun i j => (cur'[(off + i) * w + j]?).getD undef) rfl (hD g h1) (by rw [hlen]; exact h6) (by rw [hlen]; omega)
          (fun i x hx => (k3 _ x (key i x hx)).1) (fun i x j y hx hy => by
            obtain ⟨u, u1, u2⟩ := (k3 _ x (key i x hx)).2 j y hy
            rw [cell_of_row W g _ cur' t (0, 0) k2]
            have e0 : off * w + (i * w + j) = (off + i) * w + j := by rw [Nat.add_mul, Nat.add_assoc]
            simp only [e0, u1]
            rfl) (fun i x j y hx hy => by
            obtain ⟨u, u1, u2⟩ := (k3 _ x (key i x hx)).2 j y hy
            simp only [u1]
            exact u2)
        rw [hlen] at this
        exact this
end
end Go.Ve
