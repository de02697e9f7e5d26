/- The engine, part 0: values without memory (AV), roots and environments, and what it means that a machine's state represents an environment. No condition. -/
import Derived.WalkKit
import Derived.Below
import Derived.Orders
import Derived.Laws.CopyRow
import Derived.Laws.MakeOwn
import Derived.Laws.AppendOwn
namespace Go.Ve
open Go.RowKit

/-- A value as the engine sees it. 'sl', 'dptr': data that is read (region τ; w cells an element); 'osl', 'ptr', 'map': into a root of the environment; 'gd g v': v, where g is true. -/
inductive AV where
  | undef
  | int (k : IntKind) (n : Int)
  | bool (b : Bool)
  | str (s : ByteArray)
  | nilp
  | nils
  | nili
  | ifc (t : TypeId) (v : AV)
  | sl (τ w : Nat) (xs : List AV)
  | dptr (τ : Nat) (cs : List AV)
  | osl (r w off len : Nat)
  | ptr (r w i j : Nat)
  | map (r : Nat)
  | fn (f : FuncId) (caps : List AV)
  | agg (cs : List AV)
  | tup (vs : List AV)
  | gd (g : Bool) (v : AV)
  | leaf
  deriving Inhabited

/-- A plain value: an integer, a truth value, a string. -/
def isLeaf : Value → Bool
  | .int _ _ | .bool _ | .string _ => true
  | _ => false

def AV.cells : AV → List AV
  | .agg cs => cs
  | v => [v]

/-- What an environment owns: a row of elements (block of type t, w cells an element), a box (one variable), a map, or nothing any more. -/
inductive Root where
  | gone
  | row (t w : Nat) (xs : List AV)
  | box (t : Nat) (cs : List AV)
  | mp (kv : List (AV × AV))
  deriving Inhabited

structure Env where
  tm : List (Nat × AV)
  st : List Root

def tv : List (Nat × AV) → Nat → AV
  | [], _ => .undef
  | (j, v) :: l, i => if j = i then v else tv l i

/-! ### What represents what -/

/-- Data: read only, every block of region τ within D τ. -/
inductive RepD (W : World) (D : Nat → Nat → Prop) : Value → AV → Prop
  | int (k : IntKind) (n : Int) : RepD W D (.int k n) (.int k n)
  | bool (b : Bool) : RepD W D (.bool b) (.bool b)
  | str (s : ByteArray) : RepD W D (.string s) (.str s)
  | nilp : RepD W D (.pointer none) .nilp
  | nils : RepD W D (.slice none 0 0) .nils
  | nili : RepD W D .nilIface .nili
  | undef (v : Value) (h : v.oneCell' = true) : RepD W D v .undef
  | leaf (v : Value) (h : isLeaf v = true) : RepD W D v .leaf
  | ifc (t : TypeId) (u : Value) (v : AV) (h : RepD W D u v) : RepD W D (.iface t u) (.ifc t v)
  | sl0 (A : Option Addr) (cap τ w : Nat) : RepD W D (.slice A 0 cap) (.sl τ w [])
  | sl (a : Addr) (cap τ w : Nat) (xs : List AV) (u : Nat → Nat → Value) (hs : a.spot = none) (hD : D τ a.block) (hc : xs.length ≤ cap) (hm : xs.length ≤ maxLen)
      (hw : ∀ (i : Nat) (x : AV), xs[i]? = some x → x.cells.length = w)
      (hu : ∀ (i : Nat) (x : AV) (j : Nat) (y : AV), xs[i]? = some x → x.cells[j]? = some y → W.cell? ⟨a.block, a.off + (i * w + j), none⟩ = some (u i j))
      (hr : ∀ (i : Nat) (x : AV) (j : Nat) (y : AV), xs[i]? = some x → x.cells[j]? = some y → RepD W D (u i j) y) : RepD W D (.slice (some a) xs.length cap) (.sl τ w xs)
  | dptr (a : Addr) (τ : Nat) (cs : List AV) (u : Nat → Value) (hs : a.spot = none) (hD : D τ a.block)
      (hu : ∀ (j : Nat) (y : AV), cs[j]? = some y → W.cell? ⟨a.block, a.off + j, none⟩ = some (u j)) (hr : ∀ (j : Nat) (y : AV), cs[j]? = some y → RepD W D (u j) y) : RepD W D (.pointer (some a)) (.dptr τ cs)
  | fn (f : FuncId) (vs : Array Value) (caps : List AV) (u : Nat → Value) (hl : vs.size = caps.length)
      (hu : ∀ (i : Nat) (y : AV), caps[i]? = some y → vs[i]? = some (u i)) (hr : ∀ (i : Nat) (y : AV), caps[i]? = some y → RepD W D (u i) y) : RepD W D (.func (.func f) #[] vs) (.fn f caps)

/-- The header of a slice into root r. -/
def OslOk (W : World) (β : Nat → Option Nat) (v : Value) (r w off len : Nat) : Prop :=
  (β r = none ∧ v = .slice none 0 0 ∧ off = 0 ∧ len = 0) ∨
  ∃ (g cap t : Nat) (cur : Array Value), β r = some g ∧ v = .slice (some ⟨g, off * w, none⟩) len cap ∧ W.heap[g]? = some (.cells cur t (0, 0)) ∧ cur.size = (off + cap) * w ∧ off + cap ≤ maxLen ∧ len ≤ cap

/-- A value of whatever kind. -/
inductive Rep (W : World) (D : Nat → Nat → Prop) (β : Nat → Option Nat) : Value → AV → Prop
  | undef (v : Value) : Rep W D β v .undef
  | data (v : Value) (x : AV) (h : RepD W D v x) : Rep W D β v x
  | osl (v : Value) (r w off len : Nat) (h : OslOk W β v r w off len) : Rep W D β v (.osl r w off len)
  | ptr (r w i j g : Nat) (h : β r = some g) : Rep W D β (.pointer (some ⟨g, i * w + j, none⟩)) (.ptr r w i j)
  | map (r g : Nat) (h : β r = some g) : Rep W D β (.map (some g)) (.map r)
  | fn (f : FuncId) (vs : Array Value) (caps : List AV) (u : Nat → Value) (hl : vs.size = caps.length)
      (hu : ∀ (i : Nat) (y : AV), caps[i]? = some y → vs[i]? = some (u i)) (hr : ∀ (i : Nat) (y : AV), caps[i]? = some y → Rep W D β (u i) y) : Rep W D β (.func (.func f) #[] vs) (.fn f caps)
  | agg (vs : Array Value) (cs : List AV) (u : Nat → Value) (hl : vs.size = cs.length)
      (hu : ∀ (i : Nat) (y : AV), cs[i]? = some y → vs[i]? = some (u i)) (ho : ∀ (i : Nat) (y : AV), cs[i]? = some y → (u i).oneCell' = true) (hr : ∀ (i : Nat) (y : AV), cs[i]? = some y → Rep W D β (u i) y) : Rep W D β (.agg vs) (.agg cs)
  | tup (vs : Array Value) (cs : List AV) (u : Nat → Value) (hl : vs.size = cs.length)
      (hu : ∀ (i : Nat) (y : AV), cs[i]? = some y → vs[i]? = some (u i)) (hr : ∀ (i : Nat) (y : AV), cs[i]? = some y → Rep W D β (u i) y) : Rep W D β (.tuple vs) (.tup cs)
  | gd (g : Bool) (v : Value) (x : AV) (h : g = true → Rep W D β v x) (h' : g = false → v = Go.undef) : Rep W D β v (.gd g x)

def RootOk (W : World) (D : Nat → Nat → Prop) (β : Nat → Option Nat) (r : Nat) : Root → Prop
  | .gone => True
  | .row t w xs => (β r = none ∧ xs = []) ∨ ∃ (g : Nat) (cur : Array Value), β r = some g ∧ W.heap[g]? = some (.cells cur t (0, 0)) ∧
      ∀ (i : Nat) (x : AV), xs[i]? = some x → x.cells.length = w ∧ ∀ (j : Nat) (y : AV), x.cells[j]? = some y → ∃ u, cur[i * w + j]? = some u ∧ RepD W D u y
  | .box t cs => ∃ (g : Nat) (cur : Array Value), β r = some g ∧ W.heap[g]? = some (.cells cur t (0, 0)) ∧ cur.size = cs.length ∧
      ∀ (j : Nat) (y : AV), cs[j]? = some y → ∃ u, cur[j]? = some u ∧ u.oneCell' = true ∧ Rep W D β u y
  | .mp kv => ∃ (g : Nat) (es : Array MapEntry) (clk : Nat), β r = some g ∧ W.heap[g]? = some (.map es clk) ∧ es.size = kv.length ∧
      ∀ (i : Nat) (k x : AV), kv[i]? = some (k, x) → ∃ e, es[i]? = some e ∧ RepD W D e.key k ∧ RepD W D e.val x

def Live (st : List Root) (r : Nat) : Prop := ∃ R, st[r]? = some R ∧ R ≠ .gone

structure StoreOk (W : World) (D : Nat → Nat → Prop) (β : Nat → Option Nat) (st : List Root) : Prop where
  root : ∀ r R, st[r]? = some R → RootOk W D β r R
  inj : ∀ r r' g, Live st r → Live st r' → β r = some g → β r' = some g → r = r'
  far : ∀ r g ρ, Live st r → β r = some g → ¬ D ρ g

/-- Every row of cells keeps its type and its size. -/
def Keeps (W W' : World) : Prop := ∀ (b t : Nat) (cur : Array Value) (fr : Nat × Nat), W.heap[b]? = some (.cells cur t fr) → ∃ cur', W'.heap[b]? = some (.cells cur' t fr) ∧ cur'.size = cur.size

theorem Keeps.refl (W : World) : Keeps W W := fun _ _ cur _ h => ⟨cur, h, rfl⟩
theorem Keeps.trans {a b c : World} (h : Keeps a b) (k : Keeps b c) : Keeps a c := fun x t cur fr hc =>
  let ⟨cur', h1, h2⟩ := h x t cur fr hc; let ⟨cur'', h3, h4⟩ := k x t cur' fr h1; ⟨cur'', h3, h4.trans h2⟩

/-! ### Movers -/

theorem cell_congr {W W' : World} {b : Nat} (h : W'.heap[b]? = W.heap[b]?) (i : Nat) : W'.cell? ⟨b, i, none⟩ = W.cell? ⟨b, i, none⟩ := by
  simp [World.cell?, h]

theorem RepD.mono {W W' : World} {D D' : Nat → Nat → Prop} (h : ∀ ρ b, D ρ b → W'.heap[b]? = W.heap[b]? ∧ D' ρ b) {v : Value} {x : AV} (hx : RepD W D v x) : RepD W' D' v x := by
  induction hx with
  | int => exact .int ..
  | bool => exact .bool ..
  | str => exact .str ..
  | nilp => exact .nilp
  | nils => exact .nils
  | nili => exact .nili
  | undef v h => exact .undef v h
  | leaf v h => exact .leaf v h
  | ifc t u v _ ih => exact .ifc t u v ih
  | sl0 => exact .sl0 ..
  | sl a cap τ w xs u hs hD hc hm hw hu _ ih =>
    exact .sl a cap τ w xs u hs (h _ _ hD).2 hc hm hw (fun i x j y hx hy => by rw [cell_congr (h _ _ hD).1]; exact hu i x j y hx hy) ih
  | dptr a τ cs u hs hD hu _ ih =>
    exact .dptr a τ cs u hs (h _ _ hD).2 (fun j y hy => by rw [cell_congr (h _ _ hD).1]; exact hu j y hy) ih
  | fn f vs caps u hl hu _ ih => exact .fn f vs caps u hl hu ih

theorem RepD.oneCell {W : World} {D : Nat → Nat → Prop} {v : Value} {x : AV} (h : RepD W D v x) : v.oneCell' = true := by
  cases h
  case leaf h => cases v <;> first | rfl | cases h
  all_goals first | rfl | assumption

/-- The step from one memory to another, as far as values go: data stay, cells keep their sizes, the roots that matter keep their blocks. -/
structure Mv (W W' : World) (D D' : Nat → Nat → Prop) (β β' : Nat → Option Nat) (ok : Nat → Prop) : Prop where
  data : ∀ ρ b, D ρ b → W'.heap[b]? = W.heap[b]? ∧ D' ρ b
  keep : Keeps W W'
  same : ∀ r, ok r → β' r = β r

/-- The roots that a value names. -/
inductive Names : AV → Nat → Prop
  | osl (r w off len : Nat) : Names (.osl r w off len) r
  | ptr (r w i j : Nat) : Names (.ptr r w i j) r
  | map (r : Nat) : Names (.map r) r
  | fn (f : FuncId) (caps : List AV) (y : AV) (q : Nat) (hy : y ∈ caps) (h : Names y q) : Names (.fn f caps) q
  | agg (cs : List AV) (y : AV) (q : Nat) (hy : y ∈ cs) (h : Names y q) : Names (.agg cs) q
  | tup (cs : List AV) (y : AV) (q : Nat) (hy : y ∈ cs) (h : Names y q) : Names (.tup cs) q
  | gd (x : AV) (q : Nat) (h : Names x q) : Names (.gd true x) q

theorem OslOk.mv {W W' : World} {D D' : Nat → Nat → Prop} {β β' : Nat → Option Nat} {ok : Nat → Prop} (h : Mv W W' D D' β β' ok) {v : Value} {r w off len : Nat} (hr : ok r) (hx : OslOk W β v r w off len) : OslOk W' β' v r w off len := by
  rcases hx with ⟨h1, h2⟩ | ⟨g, cap, t, cur, h1, h2, h3, h4, h5, h6⟩
  · exact .inl ⟨(h.same r hr).trans h1, h2⟩
  · obtain ⟨cur', k1, k2⟩ := h.keep _ _ _ _ h3
    exact .inr ⟨g, cap, t, cur', (h.same r hr).trans h1, h2, k1, k2.trans h4, h5, h6⟩

theorem Rep.mv {W W' : World} {D D' : Nat → Nat → Prop} {β β' : Nat → Option Nat} {ok : Nat → Prop} (h : Mv W W' D D' β β' ok) {v : Value} {x : AV} (hx : Rep W D β v x) : (∀ q, Names x q → ok q) → Rep W' D' β' v x := by
  induction hx with
  | undef v => exact fun _ => .undef v
  | data v x hd => exact fun _ => .data v x (hd.mono h.data)
  | osl v r w off len ho => exact fun hn => .osl v r w off len (ho.mv h (hn r (.osl ..)))
  | ptr r w i j g hg => exact fun hn => .ptr r w i j g ((h.same r (hn r (.ptr ..))).trans hg)
  | map r g hg => exact fun hn => .map r g ((h.same r (hn r (.map ..))).trans hg)
  | fn f vs caps u hl hu _ ih => exact fun hn => .fn f vs caps u hl hu fun i y hy => ih i y hy fun q hq => hn q (.fn f caps y q (List.mem_of_getElem? hy) hq)
  | agg vs cs u hl hu ho _ ih => exact fun hn => .agg vs cs u hl hu ho fun i y hy => ih i y hy fun q hq => hn q (.agg cs y q (List.mem_of_getElem? hy) hq)
  | tup vs cs u hl hu _ ih => exact fun hn => .tup vs cs u hl hu fun i y hy => ih i y hy fun q hq => hn q (.tup cs y q (List.mem_of_getElem? hy) hq)
  | gd g v x _ h' ih => exact fun hn => .gd g v x (fun hg => ih hg fun q hq => hn q (by subst hg; exact .gd x q hq)) h'

end Go.Ve
