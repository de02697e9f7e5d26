/- The texts of this claim, part PD 6: the engine that runs the code on values, the data, the contracts. No condition. -/
import Derived.Test.YtidfijaobkaalaaGreatPD5
import Derived.Sort.OwnSortedInts
import Derived.Test.YtidfijaobkaalaaGreatProg
import Derived.KernelRfl
namespace Go.Ve
open Go.RowKit
set_option linter.unusedVariables false
set_option linter.unusedSimpArgs false
/-- Plain values may turn into others; all else stays. -/
def IO (W W' : World) : Prop := ∀ (b i : Nat) (u : Value), W.cell? ⟨b, i, none⟩ = some u → ∃ u', W'.cell? ⟨b, i, none⟩ = some u' ∧ (u' = u ∨ (isLeaf u = true ∧ isLeaf u' = true))
theorem IO.refl (W : World) : IO W W := fun _ _ u h => ⟨u, h, .inl rfl⟩
theorem IO.trans {a b c : World} (h : IO a b) (k : IO b c) : IO a c := by
  intro x i u hu
  obtain ⟨u', h1, h2⟩ := h x i u hu
  obtain ⟨u'', h3, h4⟩ := k x i u' h1
  refine ⟨u'', h3, ?_⟩
  rcases h2 with rfl | ⟨h2, h2'⟩
  · exact h4
  · rcases h4 with rfl | ⟨_, h4⟩
    · exact .inr ⟨h2, h2'⟩
    · exact .inr ⟨h2, h4⟩
/-- Cells that hold plain values that are not told, and slices of such. -/
inductive MuC : AV → Prop
  | leaf : MuC .leaf
  | sl (τ w : Nat) (xs : List AV) (h : ∀ (i : Nat) (x : AV) (j : Nat) (y : AV), xs[i]? = some x → x.cells[j]? = some y → MuC y) : MuC (.sl τ w xs)
/-- Values that a mark does not touch. -/
inductive Mu : AV → Prop
  | undef : Mu .undef
  | int (k : IntKind) (n : Int) : Mu (.int k n)
  | bool (b : Bool) : Mu (.bool b)
  | str (s : ByteArray) : Mu (.str s)
  | c (x : AV) (h : MuC x) : Mu x
  | dptr (τ : Nat) (cs : List AV) (h : ∀ c ∈ cs, MuC c) : Mu (.dptr τ cs)
  | agg (cs : List AV) (h : ∀ c ∈ cs, MuC c) : Mu (.agg cs)
theorem muC_leaf : MuC .leaf ↔ True := ⟨fun _ => trivial, fun _ => .leaf⟩
theorem muC_sl {τ w : Nat} {xs : List AV} : MuC (.sl τ w xs) ↔ ∀ x ∈ xs, ∀ y ∈ x.cells, MuC y := by
  constructor
  · intro h
    cases h with
    | sl _ _ _ h =>
      intro x hx y hy
      obtain ⟨i, hi⟩ := List.mem_iff_getElem?.1 hx
      obtain ⟨j, hj⟩ := List.mem_iff_getElem?.1 hy
      exact h i x j y hi hj
  · exact fun h => .sl _ _ _ fun i x j y hi hj => h x (List.mem_of_getElem? hi) y (List.mem_of_getElem? hj)
theorem mu_undef : Mu .undef ↔ True := ⟨fun _ => trivial, fun _ => .undef⟩
theorem mu_int {k : IntKind} {n : Int} : Mu (.int k n) ↔ True := ⟨fun _ => trivial, fun _ => .int ..⟩
theorem mu_bool {b : Bool} : Mu (.bool b) ↔ True := ⟨fun _ => trivial, fun _ => .bool ..⟩
theorem mu_str {b : ByteArray} : Mu (.str b) ↔ True := ⟨fun _ => trivial, fun _ => .str ..⟩
theorem mu_leaf : Mu .leaf ↔ True := ⟨fun _ => trivial, fun _ => .c _ .leaf⟩
theorem mu_sl {τ w : Nat} {xs : List AV} : Mu (.sl τ w xs) ↔ ∀ x ∈ xs, ∀ y ∈ x.cells, MuC y := by
  rw [← muC_sl (τ := τ) (w := w)]
  exact ⟨fun h => by cases h with | c _ h => exact h, fun h => .c _ h⟩
theorem mu_dptr {τ : Nat} {cs : List AV} : Mu (.dptr τ cs) ↔ ∀ c ∈ cs, MuC c := ⟨fun h => by cases h with | c _ h => cases h | dptr _ _ h => exact h, fun h => .dptr _ _ h⟩
theorem mu_agg {cs : List AV} : Mu (.agg cs) ↔ ∀ c ∈ cs, MuC c := ⟨fun h => by cases h with | c _ h => cases h | agg _ h => exact h, fun h => .agg _ h⟩
section
variable {R : Nat → Prop} {W W' : World} {D : Nat → Nat → Prop} {β : Nat → Option Nat}
theorem cell_io {u u' : Value} {y : AV} (h : u' = u ∨ (isLeaf u = true ∧ isLeaf u' = true)) (hr : RepD W D u y) (hm : MuC y) : (u' = u ∧ ∃ τ w xs, y = .sl τ w xs) ∨ (y = .leaf ∧ isLeaf u' = true) := by
  cases hm with
  | leaf =>
    cases hr with
    | leaf _ hl =>
      refine .inr ⟨rfl, ?_⟩
      rcases h with rfl | ⟨_, h⟩
      · exact hl
      · exact h
  | sl τ w xs _ =>
    rcases h with rfl | ⟨h, _⟩
    · exact .inl ⟨rfl, _, _, _, rfl⟩
    · cases hr <;> cases h
theorem RepD.io (h : IO W W') {v : Value} {x : AV} (hx : RepD W D v x) : MuC x → RepD W' D v x := by
  induction hx with
  | leaf v hl => exact fun _ => .leaf v hl
  | sl0 A cap τ w => exact fun _ => .sl0 A cap τ w
  | sl a cap τ w xs u hs hDb hc hm hw hu hr ih =>
    intro hmu
    cases hmu with
    | sl _ _ _ hmu =>
    have key : ∀ (i : Nat) (x : AV) (j : Nat) (y : AV), xs[i]? = some x → x.cells[j]? = some y → ∃ u', W'.cell? ⟨a.block, a.off + (i * w + j), none⟩ = some u' ∧ RepD W' D u' y := by
      intro i x j y hx hy
      obtain ⟨u', h1, h2⟩ := h _ _ _ (hu i x j y hx hy)
      refine ⟨u', h1, ?_⟩
      rcases cell_io h2 (hr i x j y hx hy) (hmu i x j y hx hy) with ⟨rfl, _⟩ | ⟨rfl, h3⟩
      · exact ih i x j y hx hy (hmu i x j y hx hy)
      · exact .leaf _ h3
    refine .sl a cap τ w xs (fun i j => (W'.cell? ⟨a.block, a.off + (i * w + j), none⟩).getD Go.undef) hs hDb hc hm hw (fun i x j y hx hy => ?_) (fun i x j y hx hy => ?_)
    all_goals obtain ⟨u', h1, h2⟩ := key i x j y hx hy
    · simp [h1]
    · simp only [h1, Option.getD_some]; exact h2
  | _ => intro hmu; cases hmu
theorem Rep.io (h : IO W W') {v : Value} {x : AV} (hx : Rep W D β v x) (hm : Mu x) : Rep W' D β v x := by
  have hc : ∀ {v : Value} {x : AV}, Rep W D β v x → MuC x → Rep W' D β v x := by
    intro v x hx hm
    have hd : RepD W D v x := by
      cases hm with
      | leaf => cases hx with | data _ _ hd => exact hd
      | sl => cases hx with | data _ _ hd => exact hd
    exact .data _ _ (hd.io h hm)
  cases hm with
  | undef => exact .undef v
  | int k n => rw [rep_int hx]; exact .data _ _ (.int ..)
  | bool b => rw [rep_bool hx]; exact .data _ _ (.bool ..)
  | str s => rw [rep_str hx]; exact .data _ _ (.str ..)
  | c _ hm => exact hc hx hm
  | dptr τ cs hm =>
    cases hx with
    | data _ _ hd =>
    cases hd with
    | dptr a _ _ u hs hDb hu hr =>
    have key : ∀ (j : Nat) (y : AV), cs[j]? = some y → ∃ u', W'.cell? ⟨a.block, a.off + j, none⟩ = some u' ∧ RepD W' D u' y := by
      intro j y hy
      obtain ⟨u', h1, h2⟩ := h _ _ _ (hu j y hy)
      refine ⟨u', h1, ?_⟩
      rcases cell_io h2 (hr j y hy) (hm y (List.mem_of_getElem? hy)) with ⟨rfl, _⟩ | ⟨rfl, h3⟩
      · exact (hr j y hy).io h (hm y (List.mem_of_getElem? hy))
      · exact .leaf _ h3
    refine .data _ _ (.dptr a τ cs (fun j => (W'.cell? ⟨a.block, a.off + j, none⟩).getD Go.undef) hs hDb (fun j y hy => ?_) (fun j y hy => ?_))
    all_goals obtain ⟨u', h1, h2⟩ := key j y hy
    · simp [h1]
    · simp only [h1, Option.getD_some]; exact h2
  | agg cs hm =>
    cases hx with
    | data _ _ hd => cases hd
    | agg vs _ u hl hu ho hr => exact .agg vs cs u hl hu ho fun i y hy => hc (hr i y hy) (hm y (List.mem_of_getElem? hy))
/-- What a mark does to the memory: in the blocks R plain values turn; new blocks may come. -/
structure MW (R : Nat → Prop) (W W' : World) : Prop where
  os : W'.os = W.os
  tape : W'.tape = W.tape
  output : W'.output = W.output
  size : W.heap.size ≤ W'.heap.size
  frame : ∀ b, b < W.heap.size → ¬ R b → W'.heap[b]? = W.heap[b]?
  io : IO W W'
  keeps : Keeps W W'
theorem MW.refl (R : Nat → Prop) (W : World) : MW R W W := ⟨rfl, rfl, rfl, Nat.le_refl _, fun _ _ _ => rfl, .refl W, .refl W⟩
theorem MW.trans {a b c : World} (h : MW R a b) (k : MW R b c) : MW R a c :=
  ⟨k.os.trans h.os, k.tape.trans h.tape, k.output.trans h.output, Nat.le_trans h.size k.size, fun x hx hR => (k.frame x (Nat.lt_of_lt_of_le hx h.size) hR).trans (h.frame x hx hR), h.io.trans k.io, h.keeps.trans k.keeps⟩
/-- All that is lent for marks is region 1. -/
def DR (R : Nat → Prop) : Nat → Nat → Prop := fun ρ b => ρ = 1 ∧ R b
def β0 : Nat → Option Nat := fun _ => none
/-- The contract of a mark: called with args (their plain values not told), it gives res. -/
def MSat (P : Program) (f : FuncId) (args : List AV) (res : AV) : Prop :=
  Enters P f ∧ ∀ (W : World) (R : Nat → Prop) (D : Nat → Nat → Prop) (vs : List Value), (∀ b, R b → Thaw W b) → (∀ b, D 1 b → R b) → (∀ ρ b, D ρ b → b < W.heap.size) → vs.length = args.length →
    (∀ (i : Nat) (x : AV), args[i]? = some x → ∃ v, vs[i]? = some v ∧ Rep W D β0 v x ∧ ∀ q, ¬ Names x q) →
    Calls P f vs.toArray W fun e W' => ∃ v, e = .returned v ∧ MW R W W' ∧ Rep W' D β0 v res ∧ ∀ q, ¬ Names res q
/-- A machine's state under marks. -/
structure MSt (R : Nat → Prop) (W0 : World) (D0 : Nat → Nat → Prop) (sz : Nat) (e : Env) (a : Act) (W : World) (D : Nat → Nat → Prop) : Prop where
  mw : MW R W0 W
  th : ∀ b, R b → Thaw W b
  d1 : ∀ b, D 1 b → R b
  lt : ∀ ρ b, D ρ b → b < W.heap.size
  tm : ∀ i, Rep W D β0 (a.tmps.getD i undef) (tv e.tm i)
  nm : ∀ i q, ¬ Names (tv e.tm i) q
  st : e.st = []
  dd : a.defers = []
  sz : a.tmps.size = sz
def MuE (tm : List (Nat × AV)) : Prop := ∀ p ∈ tm, Mu p.2
theorem MuE.tv {tm : List (Nat × AV)} (h : MuE tm) (i : Nat) : Mu (tv tm i) := by
  induction tm with
  | nil => exact .undef
  | cons p l ih =>
    obtain ⟨j, v⟩ := p
    simp only [Go.Ve.tv]
    split
    · exact h _ (List.mem_cons_self ..)
    · exact ih fun q hq => h q (List.mem_cons_of_mem _ hq)
section
variable {W0 : World} {D0 : Nat → Nat → Prop} {sz : Nat} {e : Env} {a : Act} {P : Program}
theorem MSt.fine (h : MSt R W0 D0 sz e a W D) : Fine W D β0 e a :=
  ⟨h.tm, fun i q hq => (h.nm i q hq).elim, fun r x hr => by rw [h.st] at hr; simp at hr, fun r t cs y q hr => by rw [h.st] at hr; simp at hr⟩
theorem MSt.put (h : MSt R W0 D0 sz e a W D) {dst : Option Nat} (hd : ∀ d, dst = some d → d < sz) {v : Value} {x : AV} (hx : Rep W D β0 v x) (hn : ∀ q, ¬ Names x q) : MSt R W0 D0 sz (e.put dst x) (a.put dst v) W D := by
  cases dst with
  | none => exact h
  | some d =>
    have hlt : d < a.tmps.size := by rw [h.sz]; exact hd d rfl
    refine ⟨h.mw, h.th, h.d1, h.lt, fun i => ?_, fun i q => ?_, h.st, h.dd, by simp [Act.put, h.sz]⟩
    · rw [getD_put a d v hlt i]
      simp only [Env.put, Go.Ve.tv]
      split
      · exact hx
      · exact h.tm i
    · simp only [Env.put, Go.Ve.tv]
      split
      · exact hn q
      · exact h.nm i q
/-- Memory turned by a mark: the state stays. -/
theorem MSt.turn (h : MSt R W0 D0 sz e a W D) (hm : MW R W W') (hmu : MuE e.tm) : MSt R W0 D0 sz e a W' D :=
  ⟨h.mw.trans hm, fun b hb => (h.th b hb).keeps hm.keeps, h.d1, fun ρ b hb => Nat.lt_of_lt_of_le (h.lt ρ b hb) hm.size, fun i => (h.tm i).io hm.io (hmu.tv i), h.nm, h.st, h.dd, h.sz⟩
def isPl : AV → Bool
  | .int _ _ | .bool _ | .str _ => true
  | _ => false
theorem rep_pl {v : Value} {x : AV} (h : Rep W D β v x) (hx : isPl x = true) : isLeaf v = true := by
  cases x <;> first | cases hx | skip
  · rw [rep_int h]; rfl
  · rw [rep_bool h]; rfl
  · rw [rep_str h]; rfl
theorem leaf_cells {v : Value} (h : isLeaf v = true) : v.oneCell' = true ∧ v.cells = #[v] := by
  have h1 : v.oneCell' = true := by cases v <;> first | rfl | cases h
  exact ⟨h1, cells_leaf h1⟩
/-- A plain value is stored. -/
theorem MSt.store (h : MSt R W0 D0 sz e a W D) {o : Operand} {t : Nat} {cs : List AV} {v : Value} {x : AV} (hp : Rep W D β0 (a.eval o) (.dptr 1 (.leaf :: cs))) (hx : Rep W D β0 v x) (hpl : isPl x = true)
    (hi : (P.info? t).isSome = true) (h1 : P.cellsOf t = 1) (hmu : MuE e.tm) : ∃ W', (Instr.storeAt t (a.eval o) v).run P W = .ok () W' ∧ MSt R W0 D0 sz e a W' D := by
  have hlv := rep_pl hx hpl
  obtain ⟨hl1, hl2⟩ := leaf_cells hlv
  cases hp' : a.eval o <;> rw [hp'] at hp <;> first | (cases hp with | data _ _ hd => cases hd; done) | skip
  rename_i ad
  cases hp with
  | data _ _ hd =>
  cases hd with
  | dptr ad _ _ u hs hDb hu hr =>
  have hRb : R ad.block := h.d1 _ hDb
  have h0 := hu 0 .leaf rfl
  have hu0 : isLeaf (u 0) = true := by
    have := hr 0 .leaf rfl
    generalize u 0 = z at this
    cases this with | leaf _ h => exact h
  obtain ⟨blk, off, spot⟩ := ad
  simp only at hs
  subst hs
  simp only [Nat.add_zero] at h0 hRb ⊢
  obtain ⟨cur, tt, hc⟩ := h.th blk hRb
  have hcell : ∀ i, W.cell? ⟨blk, i, none⟩ = cur[i]? := fun i => by simp [World.cell?, hc]
  rw [hcell] at h0
  have hoff : off < cur.size := (Array.getElem?_eq_some_iff.1 h0).1
  have hrun := run_storeVar (P := P) (W := W) (g := blk) (off := off) (t := t) (v := v) hc hi (by rw [hl2, h1]; rfl) (by rw [hl2]; show off + 1 ≤ cur.size; omega) (fun u hu => by rw [hl2] at hu; simp at hu; subst hu; exact hl1)
  rw [hl2] at hrun
  generalize hcur : (cur.toList.take off ++ [v] ++ cur.toList.drop (off + 1)).toArray = cur' at *
  have hsz : cur'.size = cur.size := by rw [← hcur]; simp; omega
  have hget : ∀ i, cur'[i]? = if i = off then some v else cur[i]? := fun i => by
    rw [← hcur]
    simp only [List.getElem?_toArray]
    have hll : cur.toList.length = cur.size := by simp
    by_cases hi1 : i < off
    · rw [List.append_assoc, List.getElem?_append_left (by rw [List.length_take]; omega), List.getElem?_take, if_pos hi1, if_neg (by omega)]
      simp
    · by_cases hi2 : i = off
      · subst hi2
        rw [List.append_assoc, List.getElem?_append_right (by rw [List.length_take]; omega), List.length_take, Nat.min_eq_left (by omega)]
        simp
      · rw [if_neg hi2, List.getElem?_append_right (by simp; omega)]
        simp only [List.length_append, List.length_take, List.length_cons, List.length_nil, List.getElem?_drop]
        rw [Nat.min_eq_left (by omega)]
        have : off + 1 + (i - (off + (0 + 1))) = i := by omega
        rw [this]
        simp
  have hrun' : (Instr.storeAt t (.pointer (some ⟨blk, off, none⟩)) v).run P W = .ok () (W.setRow blk cur') := by
    rw [hrun, ← hcur]
  refine ⟨W.setRow blk cur', hrun', h.turn ⟨rfl, rfl, rfl, ?_, ?_, ?_, ?_⟩ hmu⟩
  · exact Nat.le_of_eq (setRow_size ..).symm
  · exact fun b _ hb => setRow_other W blk b _ (fun e0 => hb (e0 ▸ hRb))
  · intro b i w hw
    by_cases hbb : b = blk
    · subst hbb
      have hnew : (W.setRow b cur').cell? ⟨b, i, none⟩ = cur'[i]? := by
        simp [World.cell?, setRow_heap W b cur cur' tt (0, 0) hc]
      rw [hcell] at hw
      rw [hnew, hget]
      by_cases hio : i = off
      · subst hio
        rw [h0] at hw
        injection hw with hw
        subst hw
        exact ⟨v, by simp, .inr ⟨hu0, hlv⟩⟩
      · exact ⟨w, by rw [if_neg hio]; exact hw, .inl rfl⟩
    · refine ⟨w, ?_, .inl rfl⟩
      rw [cell_congr (setRow_other W blk b cur' hbb)]
      exact hw
  · intro b t' c fr hb
    by_cases hbb : b = blk
    · subst hbb
      rw [hc] at hb
      injection hb with hb
      injection hb with e1 e2 e3
      subst e1 e2 e3
      exact ⟨cur', setRow_heap W b cur cur' tt (0, 0) hc, hsz⟩
    · exact ⟨c, (setRow_other W blk b _ hbb).trans hb, rfl⟩
/-- A value is boxed: its cells are data of region 2. -/
theorem MSt.box (h : MSt R W0 D0 sz e a W D) {t : Nat} {v : Value} {x : AV} (hx : Rep W D β0 v x) (hb : x.boxable = true) (hm : ∀ c ∈ x.cells, MuC c) :
    ∃ D', MSt R W0 D0 sz e a (W.alloc (.cells v.cells t)) D' ∧ Rep (W.alloc (.cells v.cells t)) D' β0 (.pointer (some ⟨W.heap.size, 0, none⟩)) (.dptr 2 x.cells) := by
  obtain ⟨k1, k2⟩ := rep_cells hx hb
  let D' : Nat → Nat → Prop := fun ρ b => D ρ b ∨ (ρ = 2 ∧ b = W.heap.size)
  have hmv : Mv W (W.alloc (.cells v.cells t)) D D' β0 β0 (fun _ => True) := ⟨fun ρ b hb => ⟨ha_old W _ b (h.lt ρ b hb), .inl hb⟩, keeps_alloc W _, fun _ _ => rfl⟩
  have hsz : (W.alloc (.cells v.cells t)).heap.size = W.heap.size + 1 := by simp
  refine ⟨D', ⟨⟨h.mw.os, h.mw.tape, h.mw.output, by rw [hsz]; have := h.mw.size; omega, fun b hb hR => (ha_old W _ b (Nat.lt_of_lt_of_le hb h.mw.size)).trans (h.mw.frame b hb hR), h.mw.io.trans fun b i u hu => ?_, h.mw.keeps.trans (keeps_alloc W _)⟩, fun b hb => (h.th b hb).keeps (keeps_alloc W _), fun b hb => ?_, fun ρ b hb => ?_, fun i => (h.tm i).mv hmv (fun _ _ => trivial), h.nm, h.st, h.dd, h.sz⟩, ?_⟩
  · refine ⟨u, ?_, .inl rfl⟩
    have hbl : b < W.heap.size := by
      rcases Nat.lt_or_ge b W.heap.size with h0 | h0
      · exact h0
      · simp [World.cell?, Array.getElem?_eq_none h0] at hu
    rw [cell_congr (ha_old W _ b hbl)]
    exact hu
  · rcases hb with hb | ⟨h0, _⟩
    · exact h.d1 b hb
    · omega
  · rcases hb with hb | ⟨_, rfl⟩
    · have := h.lt ρ b hb; omega
    · omega
  · have hcell : ∀ i, (W.alloc (.cells v.cells t)).cell? ⟨W.heap.size, i, none⟩ = v.cells[i]? := fun i => by
      unfold World.cell?
      simp only [ha_new W]
      rfl
    refine .data _ _ (.dptr ⟨W.heap.size, 0, none⟩ 2 x.cells (fun j => (v.cells[j]?).getD Go.undef) rfl (.inr ⟨rfl, rfl⟩) (fun j y hy => ?_) (fun j y hy => ?_))
    all_goals obtain ⟨u, u1, _, u3⟩ := k2 j y hy
    · simp only [Nat.zero_add, hcell, u1, Option.getD_some]
    · simp only [u1, Option.getD_some]
      have hd : RepD W D u y := by
        have := hm y (List.mem_of_getElem? hy)
        cases this with
        | leaf => cases u3 with | data _ _ hd => exact hd
        | sl => cases u3 with | data _ _ hd => exact hd
      exact hd.mono hmv.data
end
end
/-- Contracts of marks, told by what they are given. -/
abbrev Msem := List AV → OpR
def mget : List (Nat × Msem) → Nat → Option Msem
  | [], _ => none
  | (j, s) :: l, i => if j = i then some s else mget l i
def MTable (P : Program) (M : List (Nat × Msem)) : Prop := ∀ p ∈ M, ∀ args, (p.2 args).c → MSat P p.1 args (p.2 args).v
theorem MTable.nil {P : Program} : MTable P [] := fun _ h => by cases h
theorem MTable.cons {P : Program} {f : Nat} {g : Msem} {M : List (Nat × Msem)} (h : ∀ args, (g args).c → MSat P f args (g args).v) (k : MTable P M) : MTable P ((f, g) :: M) := fun p hp => by
  rcases List.mem_cons.1 hp with rfl | hp
  · exact h
  · exact k p hp
theorem mget_mem {M : List (Nat × Msem)} {f : Nat} {g : Msem} (h : mget M f = some g) : (f, g) ∈ M := by
  induction M with
  | nil => cases h
  | cons p M ih =>
    obtain ⟨j, s⟩ := p
    simp only [mget] at h
    split at h
    · rename_i hj; subst hj; injection h with h; subst h; exact List.mem_cons_self ..
    · exact List.mem_cons_of_mem _ (ih h)
/-- Operations that only look. -/
def pureOp : Op → Bool
  | .move _ | .assign _ | .load _ _ | .binOp _ _ _ _ _ | .unOp _ _ _ | .convert _ _ _ | .fieldAddr _ _ _ | .field _ _ _ | .indexAddr _ _ _ | .index _ _ _ | .extract _ _ | .pick _ _ _ => true
  | .call ⟨.builtin .len, _, _⟩ => true
  | _ => false
section
variable {P : Program} {M : List (Nat × Msem)}
def moS (P : Program) (t : Nat) (c : Prop) (p x : AV) (d : Option Nat) (e : Env) (K : Env → Prop) : Prop :=
  match p with
  | .dptr 1 (.leaf :: _) => c ∧ isPl x = true ∧ (P.info? t).isSome = true ∧ P.cellsOf t = 1 ∧ MuE e.tm ∧ K (e.put d .undef)
  | _ => False
def moG (c : Prop) (g : Option Msem) (args : List AV) (d : Option Nat) (e : Env) (K : Env → Prop) : Prop :=
  match g with
  | some g => c ∧ (g args).c ∧ MuE e.tm ∧ K (e.put d (g args).v)
  | none => False
def moC (M : List (Nat × Msem)) (c : Prop) (f : AV) (args : List AV) (d : Option Nat) (e : Env) (K : Env → Prop) : Prop :=
  match f with
  | .fn fid [] => moG c (mget M fid) args d e K
  | _ => False
/-- One operation of a mark. -/
def mo (P : Program) (M : List (Nat × Msem)) (o : SOp) (e : Env) (K : Env → Prop) : Prop :=
  match o.g, o.op with
  | none, .store t p x => moS P t (e.argc p ∧ e.argc x) (e.arg p) (e.arg x) o.d e K
  | none, .box t x => e.argc x ∧ (e.arg x).boxable = true ∧ (∀ c ∈ (e.arg x).cells, MuC c) ∧ K (e.put o.d (.dptr 2 (e.arg x).cells))
  | none, .call ⟨.value f, args, _⟩ => moC M (e.argc f ∧ ∀ x ∈ args.toList, e.argc x) (e.arg f) (args.toList.map e.arg) o.d e K
  | none, op => pureOp op = true ∧ vsF P 2 [] ⟨o.d, op, none⟩ e K
  | _, _ => False
def mr (P : Program) (M : List (Nat × Msem)) : List SOp → Env → (Env → Prop) → Prop
  | [], e, K => K e
  | o :: l, e, K => mo P M o e fun e' => mr P M l e' K
def MPost (R : Nat → Prop) (W0 : World) (sz : Nat) (Q : Exit → Env → Prop) : Exit → Act → World → Prop := fun x a W => ∃ e D, Q x e ∧ MSt R W0 (fun _ _ => False) sz e a W D
/-- The machine follows. -/
def MVW (P : Program) (M : List (Nat × Msem)) (s : SCode) (Q : Exit → Env → Prop) (e : Env) : Prop :=
  ∀ (c : Code) (R : Nat → Prop) (W0 : World) (sz : Nat) (a : Act) (W : World) (D : Nat → Nat → Prop), slim c = some s → okC [] sz c = true → MSt R W0 (fun _ _ => False) sz e a W D → c.wp P (MPost R W0 sz Q) a W
def mc (P : Program) (M : List (Nat × Msem)) : SCode → (Exit → Env → Prop) → Env → Prop
  | .skip, Q, e => Q .normal e
  | .reg l, Q, e => mr P M l e (Q .normal)
  | .draw _ _, _, _ => False
  | .seq a b, Q, e => mc P M a (thenQ (mc P M b Q) Q) e
  | .cond c a b, Q, e => e.argc c ∧ vcond (e.arg c) (mc P M a Q e) (mc P M b Q e)
  | .block id a, Q, e => mc P M a (blockQ id Q) e
  | .loop a, Q, e => MVW P M (.loop a) Q e
  | .exit id, Q, e => Q (.exit id) e
  | .ret, Q, e => Q .ret e
variable {R : Nat → Prop} {W0 W : World} {D D0 : Nat → Nat → Prop} {sz : Nat} {e : Env} {a : Act} {K : Env → Prop} {Q : Exit → Act → World → Prop}
/-- What is known behind an operation. -/
def MAfter (R : Nat → Prop) (W0 : World) (sz : Nat) (K : Env → Prop) (a : Act) (W : World) : Prop := ∃ e D, K e ∧ MSt R W0 (fun _ _ => False) sz e a W D
theorem pure_step {d : Option Nat} {op : Op} (hp : pureOp op = true) (h : vsF P 2 [] ⟨d, op, none⟩ e K) (hl : ∀ x, lenFact (e.arg x) ∨ ¬ e.argc x) : (opv P e op).c ∧ K (e.put d (opv P e op).v) := by
  cases op <;> try (simp only [pureOp] at hp; done)
  case call c =>
    obtain ⟨callee, args, ts⟩ := c
    cases callee <;> simp only [pureOp] at hp <;> try cases hp
    rename_i b
    cases b <;> simp only [pureOp] at hp <;> try cases hp
    simp only [vsF] at h
    split at h
    · rename_i x t h1 h2
      obtain ⟨k1, k2, k3⟩ := h
      simp only [opv, h1, h2]
      refine ⟨⟨k1, k2⟩, k3 ?_⟩
      rcases hl x with h0 | h0
      · exact h0
      · exact absurd k1 h0
    · exact h
  all_goals first | exact h | (cases hp; done) | exact absurd hp (by simp [pureOp])
theorem mo_ok (h : MSt R W0 (fun _ _ => False) sz e a W D) (hM : MTable P M) {o : Oper} (hd : ∀ d, o.dst = some d → d < sz) {ops : Array Oper} (hv : mo P M (slimOp ops o) e K) : o.guard = none ∧ o.wp P a W (MAfter R W0 sz K) Q := by
  have hf := h.fine
  obtain ⟨dst, op, ty, pos, after, guard⟩ := o
  cases guard with
  | some x => simp [mo, slimOp] at hv
  | none =>
  refine ⟨rfl, ?_⟩
  simp only at hd
  simp only [slimOp, Option.map_none] at hv
  unfold Oper.wp
  have pure_case : (opv P e op).c → K (e.put dst (opv P e op).v) → Oper.upon P ⟨dst, op, ty, pos, after, none⟩ a (MAfter R W0 sz K) Q ((execOp a.eval ⟨dst, op, ty, pos, after, none⟩).run P W) := by
    intro hc hk
    obtain ⟨v, hr, hx⟩ := opv_ok (o := ⟨dst, op, ty, pos, after, none⟩) hf hc
    rw [hr, Oper.upon_value]
    exact ⟨_, D, hk, h.put hd hx (fun q hq => by have := opv_names hf hc hq; rw [h.st] at this; simp at this)⟩
  unfold mo at hv
  simp only at hv
  split at hv
  · -- store
    rename_i _ t p x _
    unfold moS at hv
    split at hv
    · rename_i cs hp
      obtain ⟨⟨h1, h2⟩, h3, h4, h5, h6, h7⟩ := hv
      have hpr : Rep W D β0 (a.eval p) (.dptr 1 (.leaf :: cs)) := by rw [← hp]; exact hf.arg h1
      obtain ⟨W', u1, u2⟩ := h.store (P := P) hpr (hf.arg h2) h3 h4 h5 h6
      have hrun : (execOp a.eval ⟨dst, .store t p x, ty, pos, after, none⟩).run P W = .ok .skip W' := by
        simp only [execOp, Sem.run_bind, u1, Result.andThen_ok, Sem.run_pure]
      rw [hrun, Oper.upon_skip]
      exact ⟨_, D, h7, u2.put hd (.undef _) (fun q hq => by cases hq)⟩
    · exact hv.elim
  · -- box
    rename_i _ t x _
    obtain ⟨h1, h2, h3, h4⟩ := hv
    obtain ⟨D', k1, k2⟩ := h.box (t := t) (hf.arg h1) h2 h3
    have hr : (execOp a.eval ⟨dst, .box t x, ty, pos, after, none⟩).run P W = .ok (.value (.pointer (some ⟨W.heap.size, 0, none⟩))) (W.alloc (.cells (a.eval x).cells t)) := by
      simp [execOp, Instr.box, newVar, newRow]
    rw [hr, Oper.upon_value]
    exact ⟨_, D', h4, k1.put hd k2 (fun q hq => by cases hq)⟩
  · -- call
    rename_i _ f args ts _
    unfold moC at hv
    split at hv
    · rename_i fid hfe
      unfold moG at hv
      split at hv
      · rename_i g hg
        obtain ⟨⟨h1, h2⟩, h3, h4, h5⟩ := hv
        have hms := hM _ (mget_mem hg) _ h3
        have hfr : Rep W D β0 (a.eval f) (.fn fid []) := by rw [← hfe]; exact hf.arg h1
        have hvf : a.eval f = .func (.func fid) #[] #[] := by
          generalize a.eval f = w at hfr
          cases hfr with
          | data _ _ hd => cases hd with | fn _ vs _ u hl hu hr => simp at hl; subst hl; rfl
          | fn _ vs _ u hl hu hr => simp at hl; subst hl; rfl
        have hrun : (execOp a.eval ⟨dst, .call ⟨.value f, args, ts⟩, ty, pos, after, none⟩).run P W = .ok (.enter fid (args.map a.eval)) W := by
          simp only [execOp, resolve, hvf, Deferred.ofValue, Sem.run_bind, Sem.run_pure, Result.andThen_ok, invoke, Array.empty_append]
          simpa using hms.1 (args.map a.eval) W
        rw [hrun, Oper.upon_enter]
        have hcall := hms.2 W R D (args.map a.eval).toList h.th h.d1 h.lt (by simp) (fun i x hi => by
          simp only [List.getElem?_map, Option.map_eq_some_iff] at hi
          obtain ⟨ox, hox, rfl⟩ := hi
          refine ⟨a.eval ox, ?_, hf.arg (h2 ox (List.mem_of_getElem? hox)), fun q hq => ?_⟩
          · simp only [Array.toList_map, List.getElem?_map, hox]; rfl
          · have := hf.names' ox (h2 ox (List.mem_of_getElem? hox)) hq
            rw [h.st] at this
            simp at this)
        rw [Array.toArray_toList] at hcall
        refine hcall.mono ?_
        rintro e' W' ⟨v, rfl, s1, s2, s3⟩
        exact ⟨_, D, h5, (h.turn s1 h4).put hd s2 s3⟩
      · exact hv.elim
    · exact hv.elim
  · rename_i op' _ _ _ _ _
    obtain ⟨h1, h2⟩ := hv
    obtain ⟨k1, k2⟩ := pure_step h1 h2 (fun x => by
      by_cases hx : e.argc x
      · exact .inl (lenFact_ok (hf.arg hx))
      · exact .inr hx)
    exact pure_case k1 k2
  · exact hv.elim
theorem mr_ok (hM : MTable P M) {ops : Array Oper} (hQ : ∀ a W, MAfter R W0 sz K a W → Q .normal a W) : ∀ (l : List Oper) (e : Env) (a : Act) (W : World) (D : Nat → Nat → Prop), (∀ o ∈ l, ∀ d, o.dst = some d → d < sz) → MSt R W0 (fun _ _ => False) sz e a W D → mr P M (l.map (slimOp ops)) e K → wpList P ops Q l a W
  | [], e, a, W, D, _, h, hv => hQ a W ⟨e, D, hv, h⟩
  | o :: l, e, a, W, D, hl, h, hv => by
    obtain ⟨hg, h1⟩ := mo_ok (Q := Q) h hM (hl o (List.mem_cons_self ..)) hv
    have ih : ∀ a W, MAfter R W0 sz (fun e' => mr P M (l.map (slimOp ops)) e' K) a W → wpList P ops Q l a W := fun a W ⟨e', D', k1, k2⟩ =>
      mr_ok hM hQ l e' a W D' (fun o ho => hl o (List.mem_cons_of_mem _ ho)) k2 k1
    unfold wpList
    have hw : Region.wanted o (yielded ops a.tmps) = true := by simp [Region.wanted, hg]
    rw [if_pos hw]
    exact .inl (Oper.wp_mono ih h1)
theorem mc_ok (hM : MTable P M) : ∀ (s : SCode) (Q : Exit → Env → Prop) (e : Env), mc P M s Q e → MVW P M s Q e := by
  intro s
  induction s with
  | loop a ih => exact fun Q e h => h
  | skip =>
    intro Q e h c R W0 sz a W D hs ho hst
    cases c
    case region id ops draw =>
      rcases slim_region hs with ⟨rfl, e0⟩ | ⟨rfl, e0⟩
      · cases e0
      · cases e0
    all_goals simp only [slim] at hs
    all_goals try cases hs
    · exact wp_skip ⟨e, D, h, hst⟩
    · split at hs <;> cases hs
    · split at hs <;> cases hs
    · split at hs <;> cases hs
    · split at hs <;> cases hs
    · exact wp_label ⟨e, D, h, hst⟩
  | reg l =>
    intro Q e h c R W0 sz a W D hs ho hst
    cases c
    case region id ops draw =>
      rcases slim_region hs with ⟨rfl, e0⟩ | ⟨rfl, e0⟩
      · injection e0 with e0
        subst e0
        simp only [okC] at ho
        simp only [mc] at h
        exact wp_region_list (mr_ok hM (fun a W ⟨e', D', k1, k2⟩ => ⟨e', D', k1, k2⟩) ops.toList e a W D (fun o hom d hd => by
          obtain ⟨i, hi⟩ := List.mem_iff_getElem?.1 hom
          exact okOps_dst ho i o d (by simpa using hi) hd) hst h)
      · cases e0
    all_goals simp only [slim] at hs
    all_goals try cases hs
    any_goals (split at hs <;> cases hs)
  | draw l B => exact fun Q e h => h.elim
  | seq x y ihx ihy =>
    intro Q e h c R W0 sz a W D hs ho hst
    cases c
    case region id ops draw =>
      rcases slim_region hs with ⟨rfl, e0⟩ | ⟨rfl, e0⟩
      · cases e0
      · cases e0
    all_goals simp only [slim] at hs
    all_goals try cases hs
    any_goals (split at hs <;> cases hs)
    · rename_i h1 h2
      simp only [okC, Bool.and_eq_true] at ho
      simp only [mc] at h
      refine wp_seq (wp_mono (ihx _ _ h _ R W0 sz a W D h1 ho.1 hst) ?_)
      rintro x a' W' ⟨e', D', k1, k2⟩
      cases x <;> try exact ⟨e', D', k1, k2⟩
      exact ihy _ _ k1 _ R W0 sz a' W' D' h2 ho.2 k2
  | cond x y z ihy ihz =>
    intro Q e h c R W0 sz a W D hs ho hst
    cases c
    case region id ops draw =>
      rcases slim_region hs with ⟨rfl, e0⟩ | ⟨rfl, e0⟩
      · cases e0
      · cases e0
    all_goals simp only [slim] at hs
    all_goals try cases hs
    any_goals (split at hs <;> cases hs)
    · rename_i h1 h2
      simp only [okC, Bool.and_eq_true] at ho
      simp only [mc] at h
      obtain ⟨k1, k2⟩ := h
      have hc := hst.fine.arg k1
      unfold vcond at k2
      split at k2
      · rename_i t ht
        rw [ht] at hc
        exact wp_cond_split (rep_bool hc) (fun ht => ihy _ _ (k2.1 ht) _ R W0 sz a W D h1 ho.1 hst) (fun ht => ihz _ _ (k2.2 ht) _ R W0 sz a W D h2 ho.2 hst)
      · exact k2.elim
  | block id x ih =>
    intro Q e h c R W0 sz a W D hs ho hst
    cases c
    case region id ops draw =>
      rcases slim_region hs with ⟨rfl, e0⟩ | ⟨rfl, e0⟩
      · cases e0
      · cases e0
    all_goals simp only [slim] at hs
    all_goals try cases hs
    any_goals (split at hs <;> cases hs)
    · rename_i h1
      simp only [okC] at ho
      simp only [mc] at h
      refine wp_block (wp_mono (ih _ _ h _ R W0 sz a W D h1 ho hst) ?_)
      rintro x a' W' ⟨e', D', k1, k2⟩
      cases x <;> try exact ⟨e', D', k1, k2⟩
      rename_i i
      simp only [blockQ] at k1
      simp only [Exit.inBlock]
      split <;> rename_i hi
      · rw [if_pos hi] at k1; exact ⟨e', D', k1, k2⟩
      · rw [if_neg hi] at k1; exact ⟨e', D', k1, k2⟩
  | exit id =>
    intro Q e h c R W0 sz a W D hs ho hst
    cases c
    case region id ops draw =>
      rcases slim_region hs with ⟨rfl, e0⟩ | ⟨rfl, e0⟩
      · cases e0
      · cases e0
    all_goals simp only [slim] at hs
    all_goals try cases hs
    any_goals (split at hs <;> cases hs)
    · exact wp_exit ⟨e, D, h, hst⟩
  | ret =>
    intro Q e h c R W0 sz a W D hs ho hst
    cases c
    case region id ops draw =>
      rcases slim_region hs with ⟨rfl, e0⟩ | ⟨rfl, e0⟩
      · cases e0
      · cases e0
    all_goals simp only [slim] at hs
    all_goals try cases hs
    any_goals (split at hs <;> cases hs)
    · exact wp_ret ⟨e, D, h, hst⟩
theorem MSt.sub {e' : Env} (h : MSt R W0 D0 sz e a W D) (hs : SubI e e') : MSt R W0 D0 sz e' a W D := by
  obtain ⟨tm', st'⟩ := e'
  obtain ⟨h1, h2⟩ := hs
  refine ⟨h.mw, h.th, h.d1, h.lt, fun i => ?_, fun i q hq => ?_, h1.trans h.st, h.dd, h.sz⟩
  · rcases tv_sub _ h2 i with h0 | h0 <;> simp only [h0]
    · exact .undef _
    · exact h.tm i
  · rcases tv_sub _ h2 i with h0 | h0 <;> simp only [h0] at hq
    · cases hq
    · exact h.nm i q hq
/-- A loop over n rounds. -/
theorem MVW_for (hM : MTable P M) {a : SCode} {Q : Exit → Env → Prop} {e : Env} (m : Nat) (I : Nat → Env) (he : SubI e (I 0))
    (step : ∀ i, i ≤ m → mc P M a (thenQ (fun e' => i < m ∧ SubI e' (I (i + 1))) Q) (I i)) : MVW P M (.loop a) Q e := by
  intro c R W0 sz A W D hs ho hst
  have hst := hst.sub he
  cases c
  case region id ops draw =>
    rcases slim_region hs with ⟨rfl, e0⟩ | ⟨rfl, e0⟩
    · cases e0
    · cases e0
  all_goals simp only [slim] at hs
  all_goals try cases hs
  any_goals (split at hs <;> cases hs)
  rename_i c _ hs
  simp only [okC] at ho
  let p : Act → World → Nat → Prop := fun A W j => ∃ i D, i ≤ m ∧ j = m - i ∧ MSt R W0 (fun _ _ => False) sz (I i) A W D
  let J : Act → World → Prop := fun A W => ∃ j, p A W j
  classical
  let μ' : Act → World → Nat := fun A W => if h : J A W then Classical.choose (least h) else 0
  refine wp_loop J μ' ⟨m - 0, 0, D, Nat.zero_le _, rfl, hst⟩ fun A W hJ => ?_
  have hμ : μ' A W = Classical.choose (least hJ) := by simp only [μ']; rw [dif_pos hJ]
  obtain ⟨⟨i, D1, k1, k2, k3⟩, _⟩ := Classical.choose_spec (least hJ)
  refine wp_mono (mc_ok hM a _ _ (step i k1) c R W0 sz A W D1 hs ho k3) ?_
  rintro x A' W' ⟨e', D2, q1, q2⟩
  cases x <;> try exact ⟨e', D2, q1, q2⟩
  obtain ⟨m1, m2⟩ := q1
  have hJ' : J A' W' := ⟨m - (i + 1), i + 1, D2, m1, rfl, q2.sub m2⟩
  refine ⟨hJ', ?_⟩
  have hμ' : μ' A' W' = Classical.choose (least hJ') := by simp only [μ']; rw [dif_pos hJ']
  have hle := (Classical.choose_spec (least hJ')).2 (m - (i + 1)) ⟨i + 1, D2, m1, rfl, q2.sub m2⟩
  rw [hμ, hμ', k2]
  omega
/-- What a mark owes at its end: an integer. -/
def mretP (P : Program) (rs : List RV) (k : IntKind) (n : Int) : Exit → Env → Prop
  | .ret, e | .normal, e => ∃ t, rs = [.t t] ∧ tv e.tm t = .int k n
  | _, _ => False
theorem MSat.of_body {f : FuncId} {fn : Func} {s : SCode} {rs : List RV} {nt : Nat} {args : List AV} {k : IntKind} {n : Int} (hM : MTable P M) (hf : P.funcs[f]? = some fn) (hsl : slimF fn = some (s, rs, nt)) (ho : okF [] fn = true) (hnt : args.length ≤ nt)
    (h : mc P M s (mretP P rs k n) ⟨enT 0 args, []⟩) : MSat P f args (.int k n) := by
  obtain ⟨c, hb, hs, hr, rfl⟩ := slimF_some hsl
  refine ⟨enters_of hf ho, fun W R D vs hth hd1 hlt hl ha => ?_⟩
  simp only [okF, Bool.and_eq_true, hb] at ho
  have hstart : MSt R W (fun _ _ => False) fn.ntmps ⟨enT 0 args, []⟩ { tmps := vs.toArray ++ Array.replicate (fn.ntmps - vs.toArray.size) Go.undef, defers := [] } W D := by
    refine ⟨.refl R W, hth, hd1, hlt, fun i => ?_, fun i q hq => ?_, rfl, rfl, by simp; omega⟩
    · rw [tv_enT]
      simp only [Nat.not_lt_zero, if_false, Nat.sub_zero]
      cases hx : args[i]? with
      | none => exact .undef _
      | some x =>
        obtain ⟨v, h1, h2, _⟩ := ha i x hx
        have hi : i < vs.length := (List.getElem?_eq_some_iff.1 h1).1
        have : (vs.toArray ++ Array.replicate (fn.ntmps - vs.toArray.size) Go.undef).getD i Go.undef = v := by
          rw [Array.getD_eq_getD_getElem?, Array.getElem?_append_left (by simpa using hi)]
          simp [h1]
        rw [this]
        exact h2
    · rw [tv_enT] at hq
      simp only [Nat.not_lt_zero, if_false, Nat.sub_zero] at hq
      cases hx : args[i]? with
      | none => rw [hx] at hq; cases hq
      | some x =>
        rw [hx] at hq
        obtain ⟨v, _, _, h3⟩ := ha i x hx
        exact h3 q hq
  refine calls_of_wp hf hb (wp_mono (mc_ok hM s _ _ h c R W fn.ntmps _ W D hs ho.2 hstart) ?_)
  rintro x a' W' ⟨e', D', hq, hst'⟩
  have fin : (∃ t, rs = [.t t] ∧ tv e'.tm t = .int k n) → bodyPost P fn (fun e W' => ∃ v, e = .returned v ∧ MW R W W' ∧ Rep W' D β0 v (.int k n) ∧ ∀ q, ¬ Names (.int k n) q) .ret a' W' := by
    rintro ⟨t, rfl, ht⟩
    have hfr : fn.results = #[.tmp t] := by
      unfold resOf at hr
      split at hr
      · cases hr
      · rename_i x hx
        injection hr with hr
        rw [← Array.toList_inj, hx]
        cases x with
        | tmp t' => simp only [rvOf, List.cons.injEq, RV.t.injEq, and_true] at hr; rw [hr]
        | cell => simp [rvOf] at hr
      · injection hr with hr; simp at hr
      · injection hr with hr; simp at hr
      · cases hr
    have hv : a'.tmps.getD t Go.undef = .int k n := rep_int (by rw [← ht]; exact hst'.tm t)
    refine ⟨hst'.dd, .int k n, by rw [results_eq]; simp [hfr, oneRes, Sem.run_pure, hv], ?_⟩
    exact ⟨_, rfl, hst'.mw, .data _ _ (.int ..), fun q hq => by cases hq⟩
  cases x
  case normal => exact fin hq
  case ret => exact fin hq
  all_goals exact hq.elim
end
/-- Cell by cell: the data of region μ, as a mark sees them. -/
inductive Lf (μ : Nat) : AV → AV → Prop
  | int (k : IntKind) (n : Int) : Lf μ (.int k n) .leaf
  | bool (b : Bool) : Lf μ (.bool b) .leaf
  | str (s : ByteArray) : Lf μ (.str s) .leaf
  | sl (w : Nat) (xs ys : List AV) (hl : xs.length = ys.length) (hw : ∀ (i : Nat) (x y : AV), xs[i]? = some x → ys[i]? = some y → x.cells.length = y.cells.length)
      (h : ∀ (i : Nat) (x y : AV) (j : Nat) (c d : AV), xs[i]? = some x → ys[i]? = some y → x.cells[j]? = some c → y.cells[j]? = some d → Lf μ c d) : Lf μ (.sl μ w xs) (.sl 1 w ys)
section
variable {W : World} {D : Nat → Nat → Prop} {β : Nat → Option Nat} {μ : Nat}
theorem RepD.lf {v : Value} {x : AV} (h : RepD W D v x) : ∀ {y : AV}, Lf μ x y → RepD W (DR (D μ)) v y := by
  induction h with
  | int k n => intro y h; cases h; exact .leaf _ rfl
  | bool b => intro y h; cases h; exact .leaf _ rfl
  | str s => intro y h; cases h; exact .leaf _ rfl
  | sl0 A cap τ w =>
    intro y h
    cases h with
    | sl _ _ ys hl => 
      obtain rfl : ys = [] := List.length_eq_zero_iff.1 (by simpa using hl.symm)
      exact .sl0 A cap 1 w
  | sl a cap τ w xs u hs hD hc hm hw hu _ ih =>
    intro y h
    cases h with
    | sl _ _ ys hl hcl hcell =>
      rw [hl] at hc hm ⊢
      have get : ∀ (i : Nat) (y : AV), ys[i]? = some y → ∃ x, xs[i]? = some x := fun i y hy => by
        have := (List.getElem?_eq_some_iff.1 hy).1
        exact ⟨xs[i], List.getElem?_eq_getElem (by omega)⟩
      have getc : ∀ (i : Nat) (x y : AV) (j : Nat) (d : AV), xs[i]? = some x → ys[i]? = some y → y.cells[j]? = some d → ∃ c, x.cells[j]? = some c := fun i x y j d hx hy hd => by
        have := (List.getElem?_eq_some_iff.1 hd).1
        have := hcl i x y hx hy
        exact ⟨x.cells[j], List.getElem?_eq_getElem (by omega)⟩
      refine .sl a cap 1 w ys u hs ⟨rfl, hD⟩ hc hm (fun i y hy => ?_) (fun i y j d hy hd => ?_) (fun i y j d hy hd => ?_)
      · obtain ⟨x, hx⟩ := get i y hy
        rw [← hcl i x y hx hy]
        exact hw i x hx
      · obtain ⟨x, hx⟩ := get i y hy
        obtain ⟨c, hc'⟩ := getc i x y j d hx hy hd
        exact hu i x j c hx hc'
      · obtain ⟨x, hx⟩ := get i y hy
        obtain ⟨c, hc'⟩ := getc i x y j d hx hy hd
        exact ih i x j c hx hc' (hcell i x y j c d hx hy hc' hd)
  | _ => intro y h; cases h
/-- Values that are handed to a mark. -/
inductive LfV (μ : Nat) : AV → AV → Prop
  | int (k : IntKind) (n : Int) : LfV μ (.int k n) (.int k n)
  | c (x y : AV) (h : Lf μ x y) : LfV μ x y
  | agg (cs ds : List AV) (hl : cs.length = ds.length) (h : ∀ (j : Nat) (c d : AV), cs[j]? = some c → ds[j]? = some d → Lf μ c d) : LfV μ (.agg cs) (.agg ds)
theorem Lf.isCell {x y : AV} (h : Lf μ x y) : ∀ q, ¬ Names y q := by
  intro q hq
  cases h <;> cases hq
theorem LfV.noNames {x y : AV} (h : LfV μ x y) : ∀ q, ¬ Names y q := by
  intro q hq
  cases h with
  | int => cases hq
  | c _ _ h => exact h.isCell q hq
  | agg cs ds hl h =>
    cases hq with
    | agg _ y _ hy hq =>
      obtain ⟨j, hj⟩ := List.mem_iff_getElem?.1 hy
      have hjl := (List.getElem?_eq_some_iff.1 hj).1
      exact (h j cs[j] y (List.getElem?_eq_getElem (by omega)) hj).isCell q hq
theorem Rep.lf {v : Value} {x y : AV} (h : Rep W D β v x) (hy : LfV μ x y) : Rep W (DR (D μ)) β0 v y := by
  have hc : ∀ {v : Value} {x y : AV}, Rep W D β v x → Lf μ x y → Rep W (DR (D μ)) β0 v y := by
    intro v x y h hl
    have hd : RepD W D v x := by cases hl <;> (cases h with | data _ _ hd => exact hd)
    exact .data _ _ (hd.lf hl)
  cases hy with
  | int k n => rw [rep_int h]; exact .data _ _ (.int ..)
  | c _ _ hl => exact hc h hl
  | agg cs ds hl hcd =>
    cases h with
    | data _ _ hd => cases hd
    | agg vs _ u hvl hu ho hr =>
      have get : ∀ (i : Nat) (d : AV), ds[i]? = some d → ∃ c, cs[i]? = some c := fun i d hd => by
        have := (List.getElem?_eq_some_iff.1 hd).1
        exact ⟨cs[i], List.getElem?_eq_getElem (by omega)⟩
      refine .agg vs ds u (hvl.trans hl) (fun i d hd => ?_) (fun i d hd => ?_) (fun i d hd => ?_)
      all_goals obtain ⟨c, hc'⟩ := get i d hd
      · exact hu i c hc'
      · exact ho i c hc'
      · exact hc (hr i c hc') (hcd i c d hc' hd)
/-- Elements side by side. -/
def LfE (μ : Nat) (x y : AV) : Prop := x.cells.length = y.cells.length ∧ ∀ (j : Nat) (c d : AV), x.cells[j]? = some c → y.cells[j]? = some d → Lf μ c d
theorem Lf.map {α : Type} {w : Nat} {f g : α → AV} {l : List α} (h : ∀ a ∈ l, LfE μ (f a) (g a)) : Lf μ (.sl μ w (l.map f)) (.sl 1 w (l.map g)) := by
  refine .sl w _ _ (by simp) (fun i x y hx hy => ?_) (fun i x y j c d hx hy hc hd => ?_)
  all_goals
    rw [List.getElem?_map, Option.map_eq_some_iff] at hx hy
    obtain ⟨a, ha, rfl⟩ := hx
    obtain ⟨b, hb, rfl⟩ := hy
    rw [ha] at hb
    injection hb with hb
    subst hb
  · exact (h a (List.mem_of_getElem? ha)).1
  · exact (h a (List.mem_of_getElem? ha)).2 j c d hc hd
/-- Cells in line. -/
def LfL (μ : Nat) : List AV → List AV → Prop
  | [], [] => True
  | c :: cs, d :: ds => Lf μ c d ∧ LfL μ cs ds
  | _, _ => False
theorem LfL.get : ∀ {cs ds : List AV}, LfL μ cs ds → cs.length = ds.length ∧ ∀ (j : Nat) (c d : AV), cs[j]? = some c → ds[j]? = some d → Lf μ c d
  | [], [], _ => ⟨rfl, fun j c d h => by simp at h⟩
  | c :: cs, d :: ds, h => by
    obtain ⟨h1, h2⟩ := h
    obtain ⟨k1, k2⟩ := LfL.get h2
    refine ⟨by simp [k1], fun j x y hx hy => ?_⟩
    cases j with
    | zero => simp at hx hy; subst hx hy; exact h1
    | succ j => simp at hx hy; exact k2 j x y hx hy
  | [], _ :: _, h => h.elim
  | _ :: _, [], h => h.elim
theorem lfE_agg {cs ds : List AV} (h : LfL μ cs ds) : LfE μ (.agg cs) (.agg ds) := h.get
theorem lfE_one {x y : AV} (hx : x.cells = [x]) (hy : y.cells = [y]) (h : Lf μ x y) : LfE μ x y := by
  unfold LfE
  rw [hx, hy]
  exact LfL.get (cs := [x]) (ds := [y]) ⟨h, trivial⟩
theorem lfV_agg {cs ds : List AV} (h : LfL μ cs ds) : LfV μ (.agg cs) (.agg ds) := .agg _ _ h.get.1 h.get.2
inductive Nm (μ : Nat) : AV → Prop
  | undef : Nm μ .undef
  | int (k : IntKind) (n : Int) : Nm μ (.int k n)
  | bool (b : Bool) : Nm μ (.bool b)
  | str (s : ByteArray) : Nm μ (.str s)
  | nils : Nm μ .nils
  | sl (τ w : Nat) (xs : List AV) (hτ : τ ≠ μ) (h : ∀ (i : Nat) (x : AV) (j : Nat) (y : AV), xs[i]? = some x → x.cells[j]? = some y → Nm μ y) : Nm μ (.sl τ w xs)
  | agg (cs : List AV) (h : ∀ (j : Nat) (y : AV), cs[j]? = some y → Nm μ y) : Nm μ (.agg cs)
  | osl (r w off len : Nat) : Nm μ (.osl r w off len)
  | ptr (r w i j : Nat) : Nm μ (.ptr r w i j)
theorem nm_undef : Nm μ .undef ↔ True := ⟨fun _ => trivial, fun _ => .undef⟩
theorem nm_int {k : IntKind} {n : Int} : Nm μ (.int k n) ↔ True := ⟨fun _ => trivial, fun _ => .int ..⟩
theorem nm_bool {b : Bool} : Nm μ (.bool b) ↔ True := ⟨fun _ => trivial, fun _ => .bool ..⟩
theorem nm_str {b : ByteArray} : Nm μ (.str b) ↔ True := ⟨fun _ => trivial, fun _ => .str ..⟩
theorem nm_nils : Nm μ .nils ↔ True := ⟨fun _ => trivial, fun _ => .nils⟩
theorem nm_osl {r w off len : Nat} : Nm μ (.osl r w off len) ↔ True := ⟨fun _ => trivial, fun _ => .osl ..⟩
theorem nm_ptr {r w i j : Nat} : Nm μ (.ptr r w i j) ↔ True := ⟨fun _ => trivial, fun _ => .ptr ..⟩
theorem nm_agg {cs : List AV} : Nm μ (.agg cs) ↔ ∀ y ∈ cs, Nm μ y := ⟨fun h => by cases h with | agg _ h => exact forall_get.1 h, fun h => .agg _ (forall_get.2 h)⟩
theorem nm_sl {τ w : Nat} {xs : List AV} : Nm μ (.sl τ w xs) ↔ τ ≠ μ ∧ ∀ x ∈ xs, ∀ y ∈ x.cells, Nm μ y := by
  constructor
  · intro h
    cases h with
    | sl _ _ _ hτ h => exact ⟨hτ, fun x hx y hy => by
      obtain ⟨i, hi⟩ := List.mem_iff_getElem?.1 hx
      obtain ⟨j, hj⟩ := List.mem_iff_getElem?.1 hy
      exact h i x j y hi hj⟩
  · rintro ⟨h1, h2⟩
    exact .sl _ _ _ h1 fun i x j y hi hj => h2 x (List.mem_of_getElem? hi) y (List.mem_of_getElem? hj)
variable {W' : World} {D' : Nat → Nat → Prop}
theorem RepD.nm (hfr : ∀ ρ b, ρ ≠ μ → D ρ b → W'.heap[b]? = W.heap[b]? ∧ D' ρ b) {v : Value} {x : AV} (h : RepD W D v x) : Nm μ x → RepD W' D' v x := by
  induction h with
  | int => exact fun _ => .int ..
  | bool => exact fun _ => .bool ..
  | str => exact fun _ => .str ..
  | nils => exact fun _ => .nils
  | undef v h => exact fun _ => .undef v h
  | sl0 => exact fun _ => .sl0 ..
  | sl a cap τ w xs u hs hD hc hm hw hu _ ih =>
    intro hz
    cases hz with
    | sl _ _ _ hτ hz => exact .sl a cap τ w xs u hs (hfr _ _ hτ hD).2 hc hm hw (fun i x j y hx hy => by rw [cell_congr (hfr _ _ hτ hD).1]; exact hu i x j y hx hy) fun i x j y hx hy => ih i x j y hx hy (hz i x j y hx hy)
  | _ => intro hz; cases hz
theorem Rep.nm (hfr : ∀ ρ b, ρ ≠ μ → D ρ b → W'.heap[b]? = W.heap[b]? ∧ D' ρ b) (hk : Keeps W W') {v : Value} {x : AV} (h : Rep W D β v x) : Nm μ x → Rep W' D' β v x := by
  have hmv : Mv W W' (fun _ _ => False) D' β β (fun _ => True) := ⟨fun _ _ h => h.elim, hk, fun _ _ => rfl⟩
  induction h with
  | undef v => exact fun _ => .undef v
  | data v x hd => exact fun hz => .data v x (hd.nm hfr hz)
  | osl v r w off len ho => exact fun _ => .osl v r w off len (ho.mv hmv trivial)
  | ptr r w i j g hg => exact fun _ => .ptr r w i j g hg
  | agg vs cs u hl hu ho hr ih =>
    intro hz
    cases hz with
    | agg _ hz => exact .agg vs cs u hl hu ho fun i y hy => ih i y hy (hz i y hy)
  | _ => intro hz; cases hz
def NmR (μ : Nat) : Root → Prop
  | .gone => True
  | .row _ _ xs => ∀ x ∈ xs, ∀ y ∈ x.cells, Nm μ y
  | .box _ cs => ∀ y ∈ cs, Nm μ y
  | .mp _ => False
theorem RootOk.nm (hfr : ∀ ρ b, ρ ≠ μ → D ρ b → W'.heap[b]? = W.heap[b]? ∧ D' ρ b) (hk : Keeps W W') {r : Nat} {R : Root} (h : RootOk W D β r R) (hb : ∀ g, β r = some g → W'.heap[g]? = W.heap[g]?) (hz : NmR μ R) : RootOk W' D' β r R := by
  cases R with
  | gone => trivial
  | row t w xs =>
    rcases h with h | ⟨g, cur, h1, h2, h3⟩
    · exact .inl h
    · exact .inr ⟨g, cur, h1, (hb g h1).trans h2, fun i x hx => ⟨(h3 i x hx).1, fun j y hy => let ⟨u, u1, u2⟩ := (h3 i x hx).2 j y hy; ⟨u, u1, u2.nm hfr (hz x (List.mem_of_getElem? hx) y (List.mem_of_getElem? hy))⟩⟩⟩
  | box t cs =>
    obtain ⟨g, cur, h1, h2, h3, h4⟩ := h
    exact ⟨g, cur, h1, (hb g h1).trans h2, h3, fun j y hy => let ⟨u, u1, u2, u3⟩ := h4 j y hy; ⟨u, u1, u2, u3.nm hfr hk (hz y (List.mem_of_getElem? hy))⟩⟩
  | mp kv => exact hz.elim
end
/-- Where a law began: nothing stands in a region but the first, nothing was handed over. -/
structure LC (C : Ctx) : Prop where
  n : C.n = 2
  k : C.k = 0
  O : ∀ b, ¬ C.O b
  D : ∀ ρ b, 2 ≤ ρ → ¬ C.D ρ b
section
variable {C : Ctx} {sz : Nat} {e : Env} {a : Act} {W W' : World} {D : Nat → Nat → Prop} {β : Nat → Option Nat} {μ : Nat}
/-- A mark turned region μ, and it is given up; ks: what is kept; rs: roots that are given up. -/
theorem St.marked (hC : LC C) (hμ : 2 ≤ μ) (h : St C sz e a W D β) (hm : MW (D μ) W W') (ks rs : List Nat) (hk : ∀ i ∈ ks, Nm μ (tv e.tm i)) (hr : ∀ R ∈ gones e.st rs, NmR μ R) :
    St C sz ⟨keepT e.tm ks, gones e.st rs⟩ a W' (fun ρ b => ρ ≠ μ ∧ D ρ b) β := by
  have hg : ∀ rs : List Nat, MemOk C W D β (gones e.st rs) ∧ ∀ (r : Nat) (R : Root), (gones e.st rs)[r]? = some R → R = Root.gone ∨ e.st[r]? = some R := by
    intro rs
    have key : ∀ (rs : List Nat) (st : List Root), MemOk C W D β st → MemOk C W D β (gones st rs) ∧ ∀ (r : Nat) (R : Root), (gones st rs)[r]? = some R → R = Root.gone ∨ st[r]? = some R := by
      intro rs
      induction rs with
      | nil => exact fun st h => ⟨h, fun r R h => .inr h⟩
      | cons q rs ih =>
        intro st h
        obtain ⟨h1, h2⟩ := ih (st.set q .gone) (h.gone q)
        refine ⟨h1, fun r R hR => ?_⟩
        rcases h2 r R hR with h3 | h3
        · exact .inl h3
        · by_cases hq : q = r
          · subst hq
            have hl := (List.getElem?_eq_some_iff.1 h3).1
            rw [List.length_set] at hl
            simp [hl] at h3
            exact .inl h3.symm
          · rw [List.getElem?_set_ne hq] at h3
            exact .inr h3
    exact key rs e.st h.mem
  obtain ⟨hM, hold⟩ := hg rs
  have hnew : ∀ b, D μ b → C.W.heap.size ≤ b := fun b hb => by
    rcases h.mem.dnew μ b hb with h1 | h1 | h1
    · exact (hC.D μ b hμ h1).elim
    · exact h1
    · exact (hC.O b h1).elim
  have hfr : ∀ ρ b, ρ ≠ μ → D ρ b → W'.heap[b]? = W.heap[b]? ∧ (ρ ≠ μ ∧ D ρ b) := fun ρ b hρ hb => ⟨hm.frame b (h.mem.lt ρ b hb) fun hb' => hρ (h.mem.sep ρ μ b hb hb'), hρ, hb⟩
  have hlt := @block_lt W D β (gones e.st rs) hM.store.root
  have hroot : ∀ r g, Live (gones e.st rs) r → β r = some g → W'.heap[g]? = W.heap[g]? := fun r g hl hβ => hm.frame g (hlt hl hβ) fun hb => hM.store.far r g μ hl hβ hb
  have hkt : ∀ i, tv (keepT e.tm ks) i = .undef ∨ (i ∈ ks ∧ tv (keepT e.tm ks) i = tv e.tm i) := by
    intro i
    clear hk
    induction ks with
    | nil => exact .inl rfl
    | cons j ks ih =>
      simp only [keepT, List.map_cons, tv] at ih ⊢
      split
      · rename_i hj; subst hj; exact .inr ⟨List.mem_cons_self .., rfl⟩
      · rcases ih with h0 | ⟨h0, h1⟩
        · exact .inl h0
        · exact .inr ⟨List.mem_cons_of_mem _ h0, h1⟩
  refine ⟨⟨⟨fun r R hR => ?_, hM.store.inj, fun r g ρ hl hb hD => hM.store.far r g ρ hl hb hD.2⟩, hm.os.trans hM.os, hm.tape.trans hM.tape, hm.output.trans hM.output, Nat.le_trans hM.size hm.size, fun b hb hO => ?_, hM.keeps.trans hm.keeps, fun ρ b hb => ⟨fun e0 => ?_, hM.dup ρ b hb⟩, fun ρ b hρ hb => hM.dfix ρ b hρ hb.2, fun ρ b hb => hM.dnew ρ b hb.2,
    fun ρ b hb => (hM.thaw ρ b hb.2).imp_right fun k => k.keeps hm.keeps, hM.own, fun ρ b hb => Nat.lt_of_lt_of_le (hM.lt ρ b hb.2) hm.size, fun ρ ρ' b h1 h2 => hM.sep ρ ρ' b h1.2 h2.2, hM.hand, hM.kst⟩, fun i => ?_, fun i q hq => ?_, fun r t cs y q hR hy hq => ?_, h.dd, h.sz⟩
  · by_cases hgone : R = .gone
    · subst hgone; trivial
    · exact (hM.store.root r R hR).nm hfr hm.keeps (fun g hg => hroot r g ⟨R, hR, hgone⟩ hg) (hr R (List.mem_of_getElem? hR))
  · rw [hm.frame b (Nat.lt_of_lt_of_le hb h.mem.size) (fun hb' => by have := hnew b hb'; omega)]
    exact h.mem.frame b hb hO
  · subst e0; exact hC.D ρ b hμ hb
  · rcases hkt i with h0 | ⟨h0, h1⟩ <;> simp only [*]
    · exact .undef _
    · exact (h.tm i).nm hfr hm.keeps (hk i h0)
  · have hlen : (gones e.st rs).length = e.st.length := gones_length rs e.st
    show q < (gones e.st rs).length
    rw [hlen]
    rcases hkt i with h0 | ⟨h0, h1⟩
    · simp only [h0] at hq; cases hq
    · simp only [h1] at hq; exact h.nm i q hq
  · have hlen : (gones e.st rs).length = e.st.length := gones_length rs e.st
    show q < (gones e.st rs).length
    rw [hlen]
    rcases hold r _ hR with h0 | h0
    · cases h0
    · exact h.bx r t cs y q h0 hy hq
end
section
variable {P : Program} {T : List (Nat × Fsem)}
/-- A law's code, run. -/
def VL (P : Program) (T : List (Nat × Fsem)) (s : SCode) (Q : Exit → Env → Prop) (e : Env) : Prop :=
  ∀ (c : Code) (C : Ctx) (sz : Nat) (a : Act) (W : World) (D : Nat → Nat → Prop) (β : Nat → Option Nat), slim c = some s → okC T sz c = true → LC C → St C sz e a W D β → c.wp P (Post C sz Q) a W
/-- A list of operations, run. -/
def VR (P : Program) (T : List (Nat × Fsem)) (l : List SOp) (K : Env → Prop) (e : Env) : Prop :=
  ∀ (ops : Array Oper) (lo : List Oper) (C : Ctx) (sz : Nat) (a : Act) (W : World) (D : Nat → Nat → Prop) (β : Nat → Option Nat) (Q : Exit → Act → World → Prop), lo.map (slimOp ops) = l →
    (∀ o ∈ lo, (match o.guard with | some (j, _) => (opDst ops j).isSome | none => true) = true) → (∀ o ∈ lo, ∀ d, o.dst = some d → d < sz) → (∀ (i : Nat) (o' : Oper) (d : Nat), ops[i]? = some o' → o'.dst = some d → d < sz) →
    LC C → St C sz e a W D β → (∀ a W, After C sz K a W → Q .normal a W) → wpList P ops Q lo a W
theorem VL_vc (hT : Table P T) (hm : P.follows .mixedOrders = true) (m : Nat) (h2 : 2 ≤ m) {s : SCode} {Q : Exit → Env → Prop} {e : Env} (h : vc P m 0 T s Q e) : VL P T s Q e := by
  intro c C sz a W D β hs ho hC hst
  exact vc_ok hT h2 hm s Q e h c C sz a W D β hs ho (by rw [hC.n]; omega) (by rw [hC.n]; exact h2) (by rw [hC.k]; exact Nat.le_refl _) hst
theorem VL_sub {s : SCode} {Q : Exit → Env → Prop} {e e' : Env} (h : Sub 0 e e') (hv : VL P T s Q e') : VL P T s Q e := by
  intro c C sz a W D β hs ho hC hst
  obtain ⟨D', β', h'⟩ := h C sz a W D β (by rw [hC.k]; exact Nat.le_refl _) hst
  exact hv c C sz a W D' β' hs ho hC h'
theorem VL_seq {a b : SCode} {Q : Exit → Env → Prop} {e : Env} (h : VL P T a (thenQ (VL P T b Q) Q) e) : VL P T (.seq a b) Q e := by
  intro c C sz A W D β hs ho hC hst
  cases c
  case region id ops draw =>
    rcases slim_region hs with ⟨rfl, e0⟩ | ⟨rfl, e0⟩
    · cases e0
    · cases e0
  all_goals simp only [slim] at hs
  all_goals try cases hs
  any_goals (split at hs <;> cases hs)
  rename_i h1 h2
  simp only [okC, Bool.and_eq_true] at ho
  refine wp_seq (wp_mono (h _ C sz A W D β h1 ho.1 hC hst) ?_)
  rintro x a' W' ⟨e', D', β', k1, k2⟩
  cases x <;> try exact ⟨e', D', β', k1, k2⟩
  exact k1 _ C sz a' W' D' β' h2 ho.2 hC k2
/-- One statement, plainly; the region that is new is m. -/
theorem VL_step (hT : Table P T) (hm : P.follows .mixedOrders = true) (m : Nat) (h2 : 2 ≤ m) {a b : SCode} {Q : Exit → Env → Prop} {e : Env} (h : vc P m 0 T a (thenQ (VL P T b Q) Q) e) : VL P T (.seq a b) Q e := VL_seq (VL_vc hT hm m h2 h)
theorem VL_reg {l : List SOp} {Q : Exit → Env → Prop} {e : Env} (h : VR P T l (Q .normal) e) : VL P T (.reg l) Q e := by
  intro c C sz a W D β hs ho hC hst
  cases c
  case region id ops draw =>
    rcases slim_region hs with ⟨rfl, e0⟩ | ⟨rfl, e0⟩
    · injection e0 with e0
      simp only [okC] at ho
      exact wp_region_list (h ops ops.toList C sz a W D β _ e0.symm (okOps_guard ho) (fun o hom d hd => by
        obtain ⟨i, hi⟩ := List.mem_iff_getElem?.1 hom
        exact okOps_dst ho i o d (by simpa using hi) hd) (okOps_dst ho) hC hst (fun a W ⟨e', D', β', k1, k2⟩ => ⟨e', D', β', k1, k2⟩))
    · cases e0
  all_goals simp only [slim] at hs
  all_goals try cases hs
  any_goals (split at hs <;> cases hs)
theorem VR_nil {K : Env → Prop} {e : Env} (h : K e) : VR P T [] K e := by
  intro ops lo C sz a W D β Q hl _ _ _ _ hst hQ
  obtain rfl : lo = [] := by simpa using hl
  exact hQ a W ⟨e, D, β, h, hst⟩
/-- One operation, plainly. -/
theorem VR_one (hT : Table P T) (m : Nat) (h2 : 2 ≤ m) {o : SOp} {l : List SOp} {K : Env → Prop} {e : Env} (h : vsF P m T o e (VR P T l K)) : VR P T (o :: l) K e := by
  intro ops lo C sz a W D β Q hl hg hd hds hC hst hQ
  match lo, hl with
  | o' :: lo, hl =>
    simp only [List.map_cons, List.cons.injEq] at hl
    obtain ⟨rfl, rfl⟩ := hl
    rw [vsF_vstepF (hg o' (List.mem_cons_self ..))] at h
    have h1 := vstep_ok (Q := Q) (by rw [hC.n]; omega) (by rw [hC.n]; exact h2) h2 hT hst (hd o' (List.mem_cons_self ..)) hds (vstepF_vstep hst h)
    have ih : ∀ a W, After C sz (VR P T (lo.map (slimOp ops)) K) a W → wpList P ops Q lo a W := fun a W ⟨e', D', β', k1, k2⟩ =>
      k1 ops lo C sz a W D' β' Q rfl (fun o ho => hg o (List.mem_cons_of_mem _ ho)) (fun o ho => hd o (List.mem_cons_of_mem _ ho)) hds hC k2 hQ
    unfold wpList
    split
    · rename_i hw
      rw [if_pos hw] at h1
      exact .inl (Oper.wp_mono ih h1)
    · rename_i hw
      rw [if_neg hw] at h1
      exact ih _ _ h1
/-- A mark of region μ. -/
theorem VR_mark (μ : Nat) (hμ : 2 ≤ μ) (ks rs : List Nat) {d : Nat} {f : Nat} {x k : Operand} {ts : Array Nat} {l : List SOp} {K : Env → Prop} {e : Env} {y : AV} {k0 k' : Int} (hx : e.argc x) (hk : e.argc k) (hk0 : e.arg k = .int .i64 k0)
    (hy : LfV μ (e.arg x) y) (hs : MSat P f [y, .int .i64 k0] (.int .i64 k')) (hks : ∀ i ∈ ks, Nm μ (tv e.tm i)) (hrs : ∀ R ∈ gones e.st rs, NmR μ R)
    (h : VR P T l K ⟨(d, .int .i64 k') :: keepT e.tm ks, gones e.st rs⟩) : VR P T (⟨some d, .call ⟨.value (.func f), #[x, k], ts⟩, none⟩ :: l) K e := by
  intro ops lo C sz a W D β Q hl hg hd hds hC hst hQ
  match lo, hl with
  | o' :: lo, hl =>
    simp only [List.map_cons, List.cons.injEq] at hl
    obtain ⟨hl1, rfl⟩ := hl
    obtain ⟨dst, op, ty, pos, after, guard⟩ := o'
    simp only [slimOp, SOp.mk.injEq, Option.map_eq_none_iff] at hl1
    obtain ⟨rfl, rfl, rfl⟩ := hl1
    unfold wpList
    have hw : Region.wanted (⟨some d, .call ⟨.value (.func f), #[x, k], ts⟩, ty, pos, after, none⟩ : Oper) (yielded ops a.tmps) = true := by simp [Region.wanted]
    rw [if_pos hw]
    refine .inl ?_
    have hf := hst.fine
    unfold Oper.wp
    have hrun : (execOp a.eval ⟨some d, .call ⟨.value (.func f), #[x, k], ts⟩, ty, pos, after, none⟩).run P W = .ok (.enter f #[a.eval x, a.eval k]) W := by
      have hfe : a.eval (.func f) = .func (.func f) #[] #[] := rfl
      simp only [execOp, resolve, hfe, Deferred.ofValue, Sem.run_bind, Sem.run_pure, Result.andThen_ok, invoke, Array.empty_append]
      simpa using hs.1 #[a.eval x, a.eval k] W
    rw [hrun, Oper.upon_enter]
    have hkr : Rep W D β (a.eval k) (.int .i64 k0) := by rw [← hk0]; exact hf.arg hk
    have hcall := hs.2 W (D μ) (DR (D μ)) [a.eval x, a.eval k] (fun b hb => by
      rcases hst.mem.thaw μ b hb with h1 | h1
      · exact (hC.D μ b hμ h1).elim
      · exact h1) (fun b hb => hb.2) (fun ρ b hb => hst.mem.lt μ b hb.2) rfl (fun i z hi => by
      rcases i with _ | _ | i
      · simp only [List.getElem?_cons_zero, Option.some.injEq] at hi ⊢
        subst hi
        exact ⟨_, rfl, (hf.arg hx).lf hy, hy.noNames⟩
      · simp only [List.getElem?_cons_succ, List.getElem?_cons_zero, Option.some.injEq] at hi ⊢
        subst hi
        refine ⟨_, rfl, ?_, fun q hq => by cases hq⟩
        rw [rep_int hkr]
        exact .data _ _ (.int ..)
      · simp at hi)
    refine hcall.mono ?_
    rintro e' W' ⟨v, rfl, s1, s2, _⟩
    have hst2 := hst.marked hC hμ s1 ks rs hks hrs
    have hv : v = .int .i64 k' := rep_int s2
    subst hv
    have hst3 := hst2.put (dst := some d) (fun d' hd' => hd _ (List.mem_cons_self ..) d' hd') (v := .int .i64 k') (x := .int .i64 k') (.data _ _ (.int ..)) (fun q hq => by cases hq)
    exact h ops lo C sz _ W' _ β Q rfl (fun o ho => hg o (List.mem_cons_of_mem _ ho)) (fun o ho => hd o (List.mem_cons_of_mem _ ho)) hds hC hst3 hQ
/-- What a law's body gives from the old memory. -/
def LawOk (P : Program) (f : FuncId) (args : List AV) : Prop := ∀ (W : World) (vs : List Value), vs.length = args.length →
  (∀ (i : Nat) (x : AV), args[i]? = some x → ∃ v, vs[i]? = some v ∧ Rep W (oldD W) (fun _ => none) v x ∧ ∀ q, ¬ Names x q) → Calls P f vs.toArray W fun e W' => e = .returned (.bool true) ∧ Below W.heap.size W W'
theorem LawOk.of_body {f : FuncId} {fn : Func} {s : SCode} {rs : List RV} {nt : Nat} {args : List AV} (hf : P.funcs[f]? = some fn) (hsl : slimF fn = some (s, rs, nt)) (ho : okF T fn = true) (hnt : args.length ≤ nt)
    (hv : VL P T s (retP P 2 rs (.bool true)) ⟨enT 0 args, []⟩) : LawOk P f args := by
  obtain ⟨c, hb, hs, hr, rfl⟩ := slimF_some hsl
  intro W vs hl ha
  simp only [okF, Bool.and_eq_true, hb] at ho
  have hstart := body_start (n := 2) (rin := []) (β := fun _ => none) (D := oldD W) (W := W) (vs := vs) (args := args) (nt := fn.ntmps) ⟨fun r R hr => by simp at hr, fun r r' g h1 => by obtain ⟨R, h1, _⟩ := h1; simp at h1, fun r g ρ h1 => by obtain ⟨R, h1, _⟩ := h1; simp at h1⟩ (fun ρ b hb => hb.2) (fun ρ ρ' b h1 h2 => h1.1.trans h2.1.symm)
    (fun r t cs y q hr => by simp at hr) hl (fun i x hx => by obtain ⟨v, h1, h2, h3⟩ := ha i x hx; exact ⟨v, h1, h2, fun q hq => (h3 q hq).elim⟩) hnt
  have hLC : LC ⟨W, oldD W, fun b => ∃ r, Live ([] : List Root) r ∧ (fun _ => none : Nat → Option Nat) r = some b, 2, fun _ => none, ([] : List Root).length⟩ := ⟨rfl, rfl, fun b ⟨r, hr, _⟩ => by obtain ⟨R, h1, _⟩ := hr; simp at h1, fun ρ b hρ hb => by have := hb.1; omega⟩
  refine calls_of_wp hf hb (wp_mono (hv c _ fn.ntmps _ W _ _ hs ho.2 hLC hstart) ?_)
  rintro x a' W' ⟨e', D', β', hq, hst'⟩
  have fin : retP P 2 rs (.bool true) .ret e' → bodyPost P fn (fun e W' => e = .returned (.bool true) ∧ Below W.heap.size W W') .ret a' W' := by
    rintro ⟨q0, q1, q2, q3⟩
    obtain ⟨v, v1, v2⟩ := results_run (P := P) hr hst' q0
    refine ⟨hst'.dd, v, v1, ?_⟩
    have hrep := embT_ok (D' := fun ρ b => True) hst'.mem.store.root (fun _ _ _ => trivial) (fun _ _ _ _ => trivial) v2 q1
    rw [q3] at hrep
    rw [rep_bool hrep]
    have hM := hst'.mem
    exact ⟨rfl, hM.os, hM.tape, hM.output, hM.size, fun b hb => hM.frame b hb fun ⟨r, hr, _⟩ => by obtain ⟨R, h1, _⟩ := hr; simp at h1⟩
  cases x
  case normal => exact fin hq
  case ret => exact fin hq
  all_goals exact hq.elim
/-- What a function owes that hands roots back, its environment seen anew at the end. -/
def retMV (P : Program) (k : Nat) (rs : List RV) (rout : List Root) (r : AV) (x : Exit) (e : Env) : Prop := ∃ e' ρ, Sub k e e' ∧ retM P k rs ρ rout r x e'
theorem SatM.of_bodyV {f : FuncId} {fn : Func} {s : SCode} {rs : List RV} {nt n : Nat} {rin rout : List Root} {args : List AV} {r : AV} (hT : Table P T) (hm : P.follows .mixedOrders = true) (hf : P.funcs[f]? = some fn) (hsl : slimF fn = some (s, rs, nt)) (ho : okF T fn = true) (h2 : 2 ≤ n) (hnt : args.length ≤ nt)
    (hv : vc P n rin.length T s (retMV P rin.length rs rout r) ⟨enT 0 args, rin⟩) : SatM P n f rin args rout r := by
  obtain ⟨c, hb, hs, hr, rfl⟩ := slimF_some hsl
  refine ⟨enters_of hf ho, fun W D β vs hn0 hst hlt hsep hbx hl ha => ?_⟩
  simp only [okF, Bool.and_eq_true, hb] at ho
  have hstart := body_start (n := n) hst hlt hsep hbx hl ha hnt
  refine calls_of_wp hf hb (wp_mono (vc_ok hT h2 hm s _ _ hv c _ fn.ntmps _ W D β hs ho.2 hn0 (Nat.le_refl _) (Nat.le_refl _) hstart) ?_)
  rintro x a' W' ⟨e1, D1, β1, ⟨e', ρ, hsub, hq⟩, hst1⟩
  obtain ⟨D', β', hst'⟩ := hsub _ _ _ _ _ _ (Nat.le_refl _) hst1
  have fin : ((resAV P e' rs).c ∧ ρ.Nodup ∧ (∀ p < rin.length, ρ[p]? = some p) ∧ (∀ r ∈ ρ, r < e'.st.length) ∧ rout = rinOf e'.st ρ ∧ r = (resAV P e' rs).v.rnp (posOf ρ) ∧ (∀ R ∈ rout, Rz R) ∧ Nz true r) → bodyPost P fn (fun e W' => ∃ v D' β', e = .returned v ∧ MemOk ⟨W, D, fun b => ∃ r, Live rin r ∧ β r = some b, n, β, rin.length⟩ W' D' β' rout ∧
      (∀ r R, rout[r]? = some R → RootOk W' (noz D') β' r R) ∧ (∀ (r t : Nat) (cs : List AV) (y : AV) (q : Nat), rout[r]? = some (Root.box t cs) → y ∈ cs → Names y q → q < rout.length) ∧
      Rep W' (noz D') β' v r ∧ ∀ q, Names r q → q < rout.length) .ret a' W' := by
    rintro ⟨q0, q1, q2, q3, rfl, rfl, q6, q7⟩
    obtain ⟨v, v1, v2⟩ := results_run (P := P) hr hst' q0
    refine ⟨hst'.dd, v, v1, ?_⟩
    have hM := hst'.mem.rin q1 q2 q3
    refine ⟨v, D', handβ β' ρ, rfl, hM, fun p R hp => (hM.store.root p R hp).noz (q6 R (List.mem_of_getElem? hp)), fun p t cs y q hp hy hq => ?_, (rnp_ok (fun _ _ h => h) v2).noz q7, fun q hq => by simpa [rinOf] using rnp_names hq⟩
    obtain ⟨p', _, hR⟩ := rinOf_get hp
    generalize e'.st.getD p' .gone = R0 at hR
    cases R0 <;> simp [Root.rnp] at hR
    obtain ⟨_, rfl⟩ := hR
    obtain ⟨c, _, rfl⟩ := List.mem_map.1 hy
    simpa [rinOf] using rnp1_names hq
  cases x
  case normal => exact fin hq
  case ret => exact fin hq
  all_goals exact hq.elim
end
section
variable {P : Program} {M : List (Nat × Msem)} {Q : Exit → Env → Prop} {K : Env → Prop} {e e' : Env} {d : Option Nat}
@[congr] theorem mc_congr {s : SCode} (h : e = e') : mc P M s Q e = mc P M s Q e' := by rw [h]
@[congr] theorem MVW_congr {s : SCode} (h : e = e') : MVW P M s Q e = MVW P M s Q e' := by rw [h]
@[congr] theorem mr_congr {l : List SOp} (h : e = e') : mr P M l e K = mr P M l e' K := by rw [h]
@[congr] theorem mo_congr {o : SOp} (h : e = e') : mo P M o e K = mo P M o e' K := by rw [h]
@[congr] theorem VL_congr {T : List (Nat × Fsem)} {s : SCode} (h : e = e') : VL P T s Q e = VL P T s Q e' := by rw [h]
@[congr] theorem VR_congr {T : List (Nat × Fsem)} {s : List SOp} (h : e = e') : VR P T s K e = VR P T s K e' := by rw [h]
@[congr] theorem moS_congr {t : Nat} {c c' : Prop} {p p' x x' : AV} (h1 : c = c') (h2 : p = p') (h3 : x = x') (h : e = e') : moS P t c p x d e K = moS P t c' p' x' d e' K := by rw [h1, h2, h3, h]
@[congr] theorem moC_congr {c c' : Prop} {f f' : AV} {a a' : List AV} (h1 : c = c') (h2 : f = f') (h3 : a = a') (h : e = e') : moC M c f a d e K = moC M c' f' a' d e' K := by rw [h1, h2, h3, h]
@[congr] theorem moG_congr {c c' : Prop} {g g' : Option Msem} {a a' : List AV} (h1 : c = c') (h2 : g = g') (h3 : a = a') (h : e = e') : moG c g a d e K = moG c' g' a' d e' K := by rw [h1, h2, h3, h]
@[go_sem] theorem mr_nil : mr P M [] e K = K e := rfl
@[go_sem] theorem mr_cons {o : SOp} {l : List SOp} : mr P M (o :: l) e K = mo P M o e fun e' => mr P M l e' K := rfl
@[go_sem] theorem mc_skip : mc P M .skip Q e = Q .normal e := rfl
@[go_sem] theorem mc_reg {l : List SOp} : mc P M (.reg l) Q e = mr P M l e (Q .normal) := rfl
@[go_sem] theorem mc_seq {a b : SCode} : mc P M (.seq a b) Q e = mc P M a (thenQ (mc P M b Q) Q) e := rfl
@[go_sem] theorem mc_cond {c : Operand} {a b : SCode} : mc P M (.cond c a b) Q e = (e.argc c ∧ vcond (e.arg c) (mc P M a Q e) (mc P M b Q e)) := rfl
@[go_sem] theorem mc_block {id : Nat} {a : SCode} : mc P M (.block id a) Q e = mc P M a (blockQ id Q) e := rfl
@[go_sem] theorem mc_loop {a : SCode} : mc P M (.loop a) Q e = MVW P M (.loop a) Q e := rfl
@[go_sem] theorem mc_exit {id : Nat} : mc P M (.exit id) Q e = Q (.exit id) e := rfl
@[go_sem] theorem mc_ret : mc P M .ret Q e = Q .ret e := rfl
theorem mo_pure {op : Op} (h : pureOp op = true) : mo P M ⟨d, op, none⟩ e K = vsF P 2 [] ⟨d, op, none⟩ e K := by
  cases op <;> first | (simp [mo, pureOp]; done) | (simp [pureOp] at h; done) | skip
  rename_i c
  obtain ⟨callee, args, ts⟩ := c
  cases callee <;> first | (simp [mo, h]; done) | (simp [pureOp] at h; done)
@[go_sem] theorem mo_move {x : Operand} : mo P M ⟨d, .move x, none⟩ e K = vsF P 2 [] ⟨d, .move x, none⟩ e K := mo_pure rfl
@[go_sem] theorem mo_assign {x : Operand} : mo P M ⟨d, .assign x, none⟩ e K = vsF P 2 [] ⟨d, .assign x, none⟩ e K := mo_pure rfl
@[go_sem] theorem mo_load {t : Nat} {x : Operand} : mo P M ⟨d, .load t x, none⟩ e K = vsF P 2 [] ⟨d, .load t x, none⟩ e K := mo_pure rfl
@[go_sem] theorem mo_bin {op : BinOp} {t : Nat} {x y : Operand} {z : Nat} : mo P M ⟨d, .binOp op t x y z, none⟩ e K = vsF P 2 [] ⟨d, .binOp op t x y z, none⟩ e K := mo_pure rfl
@[go_sem] theorem mo_fa {t : Nat} {x : Operand} {f : Nat} : mo P M ⟨d, .fieldAddr t x f, none⟩ e K = vsF P 2 [] ⟨d, .fieldAddr t x f, none⟩ e K := mo_pure rfl
@[go_sem] theorem mo_ia {t : Nat} {x i : Operand} : mo P M ⟨d, .indexAddr t x i, none⟩ e K = vsF P 2 [] ⟨d, .indexAddr t x i, none⟩ e K := mo_pure rfl
@[go_sem] theorem mo_len {a : Array Operand} {t : Array Nat} : mo P M ⟨d, .call ⟨.builtin .len, a, t⟩, none⟩ e K = vsF P 2 [] ⟨d, .call ⟨.builtin .len, a, t⟩, none⟩ e K := mo_pure rfl
@[go_sem] theorem mo_store {t : Nat} {p x : Operand} : mo P M ⟨d, .store t p x, none⟩ e K = moS P t (e.argc p ∧ e.argc x) (e.arg p) (e.arg x) d e K := rfl
@[go_sem] theorem mo_box {t : Nat} {x : Operand} : mo P M ⟨d, .box t x, none⟩ e K = (e.argc x ∧ (e.arg x).boxable = true ∧ (∀ c ∈ (e.arg x).cells, MuC c) ∧ K (e.put d (.dptr 2 (e.arg x).cells))) := rfl
@[go_sem] theorem mo_call {f : Operand} {args : Array Operand} {ts : Array Nat} : mo P M ⟨d, .call ⟨.value f, args, ts⟩, none⟩ e K = moC M (e.argc f ∧ ∀ x ∈ args.toList, e.argc x) (e.arg f) (args.toList.map e.arg) d e K := rfl
@[go_sem] theorem moS_dptr {t : Nat} {c : Prop} {cs : List AV} {x : AV} : moS P t c (.dptr 1 (.leaf :: cs)) x d e K = (c ∧ isPl x = true ∧ (P.info? t).isSome = true ∧ P.cellsOf t = 1 ∧ MuE e.tm ∧ K (e.put d .undef)) := rfl
@[go_sem] theorem moC_fn {c : Prop} {f : FuncId} {a : List AV} : moC M c (.fn f []) a d e K = moG c (mget M f) a d e K := rfl
@[go_sem] theorem moG_some {c : Prop} {g : Msem} {a : List AV} : moG c (some g) a d e K = (c ∧ (g a).c ∧ MuE e.tm ∧ K (e.put d (g a).v)) := rfl
@[go_sem] theorem mget_cons {f i : Nat} {g : Msem} : mget ((f, g) :: M) i = if f = i then some g else mget M i := rfl
@[go_sem] theorem muE_nil : MuE [] = True := eq_true fun _ h => by cases h
@[go_sem] theorem muE_cons {p : Nat × AV} {l : List (Nat × AV)} : MuE (p :: l) = (Mu p.2 ∧ MuE l) := by simp [MuE]
@[go_sem] theorem isPl_int {k : IntKind} {n : Int} : isPl (.int k n) = true := rfl
@[go_sem] theorem isPl_bool {b : Bool} : isPl (.bool b) = true := rfl
@[go_sem] theorem isPl_str {b : ByteArray} : isPl (.str b) = true := rfl
@[go_sem] theorem gc_leaf : (AV.leaf).gc = true := rfl
@[go_sem] theorem core_leaf : (AV.leaf).core = .leaf := rfl
@[go_sem] theorem cells_leafA : (AV.leaf).cells = [.leaf] := rfl
end
attribute [go_sem] muC_leaf muC_sl mu_undef mu_int mu_bool mu_str mu_leaf mu_sl mu_dptr mu_agg
attribute [go_sem] nm_undef nm_int nm_bool nm_str nm_nils nm_osl nm_ptr nm_agg nm_sl
/-- The end of a mark. -/
@[go_sem] theorem mretP_ret {P : Program} {t : Nat} {k : IntKind} {n : Int} {e : Env} : mretP P [.t t] k n .ret e = (tv e.tm t = .int k n) := by
  simp [mretP]
theorem take_sum {f : AV → Int} {xs : List AV} {i : Nat} (h : i < xs.length) : ((xs.map f).take (i + 1)).sum = ((xs.map f).take i).sum + f (nth xs i) := by
  rw [List.take_add_one]
  have : xs[i]? = some (nth xs i) := nth_some h
  simp [this]
theorem take_sum_le {f : AV → Int} (hf : ∀ x, 0 ≤ f x) : ∀ {xs : List AV} {i : Nat}, 0 ≤ ((xs.map f).take i).sum ∧ ((xs.map f).take i).sum ≤ (xs.map f).sum
  | [], i => by simp
  | x :: xs, 0 => by
    have := take_sum_le hf (xs := xs) (i := xs.length)
    have := hf x
    have e : (xs.map f).take xs.length = xs.map f := List.take_of_length_le (by simp)
    simp only [e] at *
    simp at *
    omega
  | x :: xs, i + 1 => by
    have := take_sum_le hf (xs := xs) (i := i)
    have := hf x
    simp at *
    omega
theorem VL_keep {P : Program} {T : List (Nat × Fsem)} {s : SCode} {Q : Exit → Env → Prop} {e : Env} (ks : List Nat) (h : VL P T s Q ⟨keepT e.tm ks, e.st⟩) : VL P T s Q e :=
  VL_sub (e' := ⟨keepT e.tm ks, e.st⟩) (SubI.sub ⟨rfl, fun p hp => by
    obtain ⟨i, _, rfl⟩ := List.mem_map.1 hp
    rfl⟩) h
theorem law_callsO {P : Program} {f : FuncId} {args : List AV} {vs : List Value} {W : World} (h : LawOk P f args) (hl : vs.length = args.length) (ha : ∀ (i : Nat) (x : AV), args[i]? = some x → ∃ v, vs[i]? = some v ∧ Rep W (oldD W) (fun _ => none) v x ∧ ∀ q, ¬ Names x q) :
    Calls P f vs.toArray W fun e W' => e = .returned (.bool true) ∧ Below W.heap.size W W' := h W vs hl ha
end Go.Ve
namespace Go.Ve
open Go.RowKit Go.Sort
set_option linter.unusedVariables false
set_option linter.unusedSimpArgs false
/-- What such a function hands back: nothing, or its slice cut to m. -/
def cutV (A : Option Addr) (cap : Nat) : Option Nat → Value
  | none => .tuple #[]
  | some m => .slice A m cap
def cutA : Option Nat → AV
  | none => .tup []
  | some m => .osl 0 1 0 m
def cutN (l : Nat) : Option Nat → Nat
  | none => l
  | some m => m
theorem SatM.of_put {P : Program} {f : FuncId} {n t : Nat} {l arr : List Int} {rest : List AV} {k : Option Nat} (hE : Enters P f) (hal : arr.length = l.length) (hk : cutN l.length k ≤ l.length)
    (hrest : ∀ x ∈ rest, ∀ q, ¬ Names x q)
    (hc : ∀ (W : World) (D : Nat → Nat → Prop) (β : Nat → Option Nat) (vs : List Value) (g cap : Nat) (cur : Array Value), vs.length = rest.length → (∀ (i : Nat) (x : AV), rest[i]? = some x → ∃ v, vs[i]? = some v ∧ Rep W D β v x) → (∀ ρ b, D ρ b → b < W.heap.size) → (∀ ρ, ¬ D ρ g) →
      W.heap[g]? = some (.cells cur t (0, 0)) → cur.toList.take l.length = l.map (Value.int .i64) → l.length ≤ cap → cap ≤ maxLen → cur.size = cap →
      Calls P f (.slice (some ⟨g, 0, none⟩) l.length cap :: vs).toArray W fun e W' => e = .returned (cutV (some ⟨g, 0, none⟩) cap k) ∧ ∃ q os, W' = grow (putRow (Value.int .i64) (Sort.ahead W q) g 0 arr.toArray) os)
    (hn : ∀ (W : World) (D : Nat → Nat → Prop) (β : Nat → Option Nat) (vs : List Value), l = [] → vs.length = rest.length → (∀ (i : Nat) (x : AV), rest[i]? = some x → ∃ v, vs[i]? = some v ∧ Rep W D β v x) → (∀ ρ b, D ρ b → b < W.heap.size) →
      Calls P f (.slice none 0 0 :: vs).toArray W fun e W' => e = .returned (cutV none 0 k) ∧ Below W.heap.size W W') :
    SatM P n f [.row t 1 (l.map (AV.int .i64))] (.osl 0 1 0 l.length :: rest) [.row t 1 ((arr.take (cutN l.length k)).map (AV.int .i64))] (cutA k) := by
  refine ⟨hE, fun W D β vs hn0 hst hlt hsep hbx hl ha => ?_⟩
  match vs, hl with
  | v0 :: vs, hl =>
  have hl' : vs.length = rest.length := by simpa using hl
  obtain ⟨u0, e0, hu0, _⟩ := ha 0 _ rfl
  simp only [List.getElem?_cons_zero, Option.some.injEq] at e0
  subst e0
  have har : ∀ (i : Nat) (x : AV), rest[i]? = some x → ∃ v, vs[i]? = some v ∧ Rep W D β v x := fun i x hi => by
    obtain ⟨v, h1, h2, _⟩ := ha (i + 1) x (by simpa using hi)
    exact ⟨v, by simpa using h1, h2⟩
  have hO : ∀ g, β 0 = some g → ∃ r, Live [.row t 1 (l.map (AV.int .i64))] r ∧ β r = some g := fun g hg => ⟨0, ⟨_, rfl, by simp⟩, hg⟩
  have live0 : ∀ {R : Root} {r : Nat}, Live [R] r → r = 0 := fun {R r} ⟨R', h1, _⟩ => by
    rcases r with _ | r
    · rfl
    · simp at h1
  have noN : ∀ q, Names (cutA k) q → q < 1 := fun q hq => by
    cases k with
    | none => cases hq with | tup _ y _ hy _ => cases hy
    | some m => cases hq; decide
  have hroot := hst.root 0 _ rfl
  have hosl : OslOk W β v0 0 1 0 l.length := by cases hu0 with | data _ _ hd => cases hd | osl _ _ _ _ _ ho => exact ho
  rcases hosl with ⟨hb, rfl, _, hl0⟩ | ⟨g, cap, t', cur, hb, rfl, hh, hsz, hcap, hlc⟩
  · have hln : l = [] := List.length_eq_zero_iff.1 hl0
    refine (hn W D β vs hln hl' har hlt).mono ?_
    rintro e W' ⟨rfl, hbl⟩
    have harr : arr = [] := List.length_eq_zero_iff.1 (by rw [hal, hln]; rfl)
    have hhp : ∀ b, b < W.heap.size → W'.heap[b]? = W.heap[b]? := fun b hb => hbl.block b hb
    subst harr hln
    refine ⟨_, D, β, rfl, ⟨⟨fun r R hr => ?_, fun r r' g h1 h2 _ _ => (live0 h1).trans (live0 h2).symm, fun r g ρ h1 h2 => ?_⟩, hbl.os, hbl.tape, hbl.output, hbl.size, fun b hb' hO' => hhp b hb', fun b t c fr hb' => ⟨c, (hhp b (Array.getElem?_eq_some_iff.1 hb').1).trans hb', rfl⟩, fun ρ b h => h, fun ρ b _ h => h, fun ρ b h => .inl h, fun ρ b h => .inl h, fun r g h1 h2 => ?_, fun ρ b h => Nat.lt_of_lt_of_le (hlt ρ b h) hbl.size, hsep, fun _ _ => rfl, Nat.le_refl _⟩, fun r R hr => ?_, fun r t cs y q hr hy hq => ?_, ?_, fun q hq => noN q hq⟩
    · rcases r with _ | r
      · simp at hr; subst hr; exact .inl ⟨hb, rfl⟩
      · simp at hr
    · rw [live0 h1, hb] at h2; cases h2
    · rw [live0 h1, hb] at h2; cases h2
    · rcases r with _ | r
      · simp at hr; subst hr; exact .inl ⟨hb, rfl⟩
      · simp at hr
    · rcases r with _ | r <;> simp at hr
    · cases k with
      | none => exact .tup _ _ (fun _ => Go.undef) rfl (fun i y hy => by simp at hy) (fun i y hy => by simp at hy)
      | some m =>
        obtain rfl : m = 0 := by simpa [cutN] using hk
        exact .osl _ _ _ _ _ (.inl ⟨hb, rfl, rfl, rfl⟩)
  · simp only [Nat.zero_mul, Nat.zero_add, Nat.mul_one] at hsz hcap
    rcases hroot with ⟨h0, _⟩ | ⟨g', cur', hb', hh', hcells⟩
    · rw [hb] at h0; cases h0
    rw [hb] at hb'
    injection hb' with hb'
    subst hb'
    rw [hh] at hh'
    injection hh' with hh'
    injection hh' with e1 e2 _
    subst e1 e2
    have htake : cur.toList.take l.length = l.map (Value.int .i64) := by
      apply List.ext_getElem?
      intro j
      by_cases hj : j < l.length
      · rw [List.getElem?_take_of_lt hj, Array.getElem?_toList]
        obtain ⟨h1, h2⟩ := hcells j (.int .i64 l[j]) (by simp [hj])
        obtain ⟨u, u1, u2⟩ := h2 0 (.int .i64 l[j]) rfl
        simp only [Nat.mul_one, Nat.add_zero] at u1
        cases u2
        rw [u1]
        simp [hj]
      · rw [List.getElem?_take_eq_none (by omega), List.getElem?_eq_none (by simp; omega)]
    have hfar : ∀ ρ, ¬ D ρ g := fun ρ => hst.far 0 g ρ ⟨_, rfl, by simp⟩ hb
    have hgl : g < W.heap.size := (Array.getElem?_eq_some_iff.1 hh).1
    have hca := hc W D β vs g cap cur hl' har hlt hfar hh htake hlc hcap hsz
    refine Calls.mono (by simpa using hca) ?_
    rintro e W' ⟨rfl, q, os, rfl⟩
    have hnew := heap_sortedI (w := W) (n := q) (os := os) arr.toArray hh
    have hgr := grownBy_sortedI (w := W) (g := g) (n := q) (os := os) arr.toArray
    have htk := take_putCellsI cur arr (by rw [hal]; omega)
    generalize (grow (putRow (Value.int .i64) (Sort.ahead W q) g 0 arr.toArray) os) = W' at *
    have hbl : Below 0 W W' := Below.grown (Below.refl _ _) hgr (Nat.zero_le _) (fun _ _ => Nat.zero_le _)
    have hother : ∀ b, b < W.heap.size → b ≠ g → W'.heap[b]? = W.heap[b]? := fun b hb' hne => hgr.block b hb' (fun e0 => hne (by injection e0))
    have hsize : W.heap.size ≤ W'.heap.size := hgr.size
    have hps : (putCells (Value.int .i64) 0 arr.toArray cur).size = cur.size := by simp [putCells]
    have hk' : cutN l.length k ≤ arr.length := by omega
    have rowok : RootOk W' D β 0 (.row t' 1 ((arr.take (cutN l.length k)).map (AV.int .i64))) := by
      refine .inr ⟨g, _, hb, hnew, fun i x hx => ?_⟩
      rw [List.getElem?_map, Option.map_eq_some_iff] at hx
      obtain ⟨z, hz, rfl⟩ := hx
      refine ⟨rfl, fun j y hy => ?_⟩
      rcases j with _ | j
      · simp only [AV.cells, List.getElem?_cons_zero, Option.some.injEq] at hy
        subst hy
        have hi := (List.getElem?_eq_some_iff.1 hz).1
        simp only [List.length_take] at hi
        have hic : i < cutN l.length k := by omega
        have hz' : arr[i]? = some z := by rw [List.getElem?_take, if_pos hic] at hz; exact hz
        refine ⟨.int .i64 z, ?_, .int ..⟩
        have := congrArg (fun l => l[i]?) htk
        simp only [List.getElem?_map, hz', Option.map_some] at this
        rw [List.getElem?_take_of_lt (by omega), Array.getElem?_toList] at this
        simpa using this
      · simp [AV.cells] at hy
    refine ⟨_, D, β, rfl, ⟨⟨fun r R hr => ?_, fun r r' g h1 h2 _ _ => (live0 h1).trans (live0 h2).symm, fun r g' ρ h1 h2 => ?_⟩, hbl.os, hbl.tape, hbl.output, hsize, fun b hb' hO' => hother b hb' (fun e0 => hO' (by subst e0; exact hO _ hb)), fun b t' c fr hb' => ?_, fun ρ b h => h, fun ρ b _ h => h, fun ρ b h => .inl h, fun ρ b h => .inl h, fun r g' h1 h2 => ?_, fun ρ b h => Nat.lt_of_lt_of_le (hlt ρ b h) hsize, hsep, fun _ _ => rfl, Nat.le_refl _⟩, fun r R hr => ?_, fun r t cs y q hr hy hq => ?_, ?_, fun q hq => noN q hq⟩
    · rcases r with _ | r
      · simp only [List.getElem?_cons_zero, Option.some.injEq] at hr; subst hr; exact rowok
      · simp at hr
    · rw [live0 h1, hb] at h2; injection h2 with h2; subst h2; exact hfar ρ
    · by_cases hbg : b = g
      · subst hbg
        rw [hh] at hb'
        injection hb' with hb'
        injection hb' with e1 e2 e3
        subst e1 e2 e3
        exact ⟨_, hnew, hps⟩
      · exact ⟨c, (hother b (Array.getElem?_eq_some_iff.1 hb').1 hbg).trans hb', rfl⟩
    · rw [live0 h1] at h2; exact .inr (hO g' h2)
    · rcases r with _ | r
      · simp only [List.getElem?_cons_zero, Option.some.injEq] at hr
        subst hr
        refine rowok.noz fun x hx y hy => ?_
        obtain ⟨z, _, rfl⟩ := List.mem_map.1 hx
        simp only [AV.cells, List.mem_cons, List.not_mem_nil, or_false] at hy
        subst hy
        exact .int ..
      · simp at hr
    · rcases r with _ | r <;> simp at hr
    · cases k with
      | none => exact .tup _ _ (fun _ => Go.undef) rfl (fun i y hy => by simp at hy) (fun i y hy => by simp at hy)
      | some m =>
        refine .osl _ _ _ _ _ (.inr ⟨g, cap, t', _, hb, by simp [cutV], hnew, by rw [hps, hsz]; simp, by simpa using hcap, ?_⟩)
        have : m ≤ l.length := hk
        omega
/-- A row of integers of the call's own, handed back. -/
theorem SatM.of_own {P : Program} {f : FuncId} {n t : Nat} {l : List Int} {args : List AV} (hE : Enters P f)
    (hc : ∀ (W : World) (D : Nat → Nat → Prop) (β : Nat → Option Nat) (vs : List Value), (∀ ρ b, D ρ b → b < W.heap.size) → vs.length = args.length → (∀ (i : Nat) (x : AV), args[i]? = some x → ∃ v, vs[i]? = some v ∧ Rep W D β v x) →
      Calls P f vs.toArray W fun e W' => ∃ v', e = .returned v' ∧ W'.ownsRow W.heap.size t 1 v' l.length (l.map (Value.int .i64)) ∧ Below W.heap.size W W') :
    SatM P n f [] args [.row t 1 (l.map (AV.int .i64))] (.osl 0 1 0 l.length) := by
  refine ⟨hE, fun W D β vs hn0 hst hlt hsep hbx hl ha => ?_⟩
  refine (hc W D β vs hlt hl fun i x hi => let ⟨v, h1, h2, _⟩ := ha i x hi; ⟨v, h1, h2⟩).mono ?_
  rintro e W' ⟨v', rfl, hown, hbl⟩
  have live0 : ∀ {R : Root} {r : Nat}, Live [R] r → r = 0 := fun {R r} ⟨R', h1, _⟩ => by
    rcases r with _ | r
    · rfl
    · simp at h1
  have fin : ∀ (β' : Nat → Option Nat), (∀ g, β' 0 = some g → W.heap.size ≤ g) → RootOk W' D β' 0 (.row t 1 (l.map (AV.int .i64))) → OslOk W' β' v' 0 1 0 l.length →
      ∃ v D' β', Ending.returned v' = Ending.returned v ∧ MemOk ⟨W, D, fun b => ∃ r, Live ([] : List Root) r ∧ β r = some b, n, β, ([] : List Root).length⟩ W' D' β' [.row t 1 (l.map (AV.int .i64))] ∧
      (∀ (r : Nat) (R : Root), [Root.row t 1 (l.map (AV.int .i64))][r]? = some R → RootOk W' (noz D') β' r R) ∧ (∀ (r t' : Nat) (cs : List AV) (y : AV) (q : Nat), [Root.row t 1 (l.map (AV.int .i64))][r]? = some (Root.box t' cs) → y ∈ cs → Names y q → q < [Root.row t 1 (l.map (AV.int .i64))].length) ∧
      Rep W' (noz D') β' v (.osl 0 1 0 l.length) ∧ ∀ q, Names (.osl 0 1 0 l.length) q → q < [Root.row t 1 (l.map (AV.int .i64))].length := by
    intro β' hg hr ho
    refine ⟨v', D, β', rfl, ⟨⟨fun r R hR => ?_, fun r r' g h1 h2 _ _ => (live0 h1).trans (live0 h2).symm, fun r g ρ h1 h2 h3 => ?_⟩, hbl.os, hbl.tape, hbl.output, hbl.size, fun b hb' _ => hbl.block b hb', fun b t c fr hb' => ⟨c, (hbl.block b (Array.getElem?_eq_some_iff.1 hb').1).trans hb', rfl⟩, fun ρ b h => h, fun ρ b _ h => h, fun ρ b h => .inl h, fun ρ b h => .inl h, fun r g h1 h2 => ?_, fun ρ b h => Nat.lt_of_lt_of_le (hlt ρ b h) hbl.size, hsep, fun r hr => absurd hr (Nat.not_lt_zero r), Nat.zero_le _⟩, fun r R hR => ?_, fun r t cs y q hR => ?_, .osl _ _ _ _ _ ho, fun q hq => by cases hq; exact Nat.zero_lt_one⟩
    · rcases r with _ | r
      · simp only [List.getElem?_cons_zero, Option.some.injEq] at hR; subst hR; exact hr
      · simp at hR
    · rw [live0 h1] at h2
      have := hg g h2
      have := hlt ρ g h3
      omega
    · rw [live0 h1] at h2; exact .inl (hg g h2)
    · rcases r with _ | r
      · simp only [List.getElem?_cons_zero, Option.some.injEq] at hR
        subst hR
        refine hr.noz fun x hx y hy => ?_
        obtain ⟨z, _, rfl⟩ := List.mem_map.1 hx
        simp only [AV.cells, List.mem_cons, List.not_mem_nil, or_false] at hy
        subst hy
        exact .int ..
      · simp at hR
    · rcases r with _ | r <;> simp at hR
  rcases hown.2 with ⟨rfl, hx⟩ | ⟨g, cap, cur, rfl, hbase, hb, h1, h2, h3, h4⟩
  · have hl0 : l = [] := by
      have := hx
      first
        | exact List.length_eq_zero_iff.1 this
        | exact List.length_eq_zero_iff.1 this.1
    subst hl0
    exact fin (fun _ => none) (fun g h => by cases h) (.inl ⟨rfl, rfl⟩) (.inl ⟨rfl, rfl, rfl, rfl⟩)
  · refine fin (fun q => if q = 0 then some g else none) (fun g' h => by simp at h; subst h; exact hbase) (.inr ⟨g, cur, by simp, hb, fun i x hx => ?_⟩) (.inr ⟨g, cap, t, cur, by simp, by simp, hb, by simpa using h3, by simpa using h2, h1⟩)
    rw [List.getElem?_map, Option.map_eq_some_iff] at hx
    obtain ⟨z, hz, rfl⟩ := hx
    refine ⟨rfl, fun j y hy => ?_⟩
    rcases j with _ | j
    · simp only [AV.cells, List.getElem?_cons_zero, Option.some.injEq] at hy
      subst hy
      have hi := (List.getElem?_eq_some_iff.1 hz).1
      refine ⟨.int .i64 z, ?_, .int ..⟩
      have := congrArg (fun l => l[i]?) h4
      simp only [List.getElem?_map, hz, Option.map_some] at this
      rw [List.getElem?_take_of_lt (by omega), Array.getElem?_toList] at this
      simpa using this
    · simp [AV.cells] at hy
/-- SubR and SubE told temporary by temporary: no temporary is looked up by a name that is not told. -/
def tmOk (tm : List (Nat × AV)) (pos : Nat → Option Nat) : List (Nat × AV) → Prop
  | [] => True
  | p :: l => p.2 = (tv tm p.1).rnp pos ∧ tmOk tm pos l
theorem tmOk_nil {tm : List (Nat × AV)} {pos : Nat → Option Nat} : tmOk tm pos [] = True := rfl
theorem tmOk_cons {tm : List (Nat × AV)} {pos : Nat → Option Nat} {t : Nat} {x : AV} {l : List (Nat × AV)} : tmOk tm pos ((t, x) :: l) = (x = (tv tm t).rnp pos ∧ tmOk tm pos l) := rfl
theorem tmOk_iff {tm : List (Nat × AV)} {pos : Nat → Option Nat} : ∀ {l : List (Nat × AV)}, tmOk tm pos l ↔ ∀ p ∈ l, p.2 = (tv tm p.1).rnp pos
  | [] => by simp [tmOk]
  | p :: l => by simp only [tmOk, List.forall_mem_cons, tmOk_iff (l := l)]
theorem subR_go {k : Nat} {ρ : List Nat} {e e' : Env} : SubR k ρ e e' = (ρ.Nodup ∧ (∀ p < k, ρ[p]? = some p) ∧ (∀ r ∈ ρ, r < e.st.length) ∧ e'.st = rinOf e.st ρ ∧ tmOk e.tm (posOf ρ) e'.tm) := by
  unfold SubR
  simp only [tmOk_iff]
def anOf (tm : List (Nat × AV)) : List Nat → List Nat
  | [] => []
  | t :: l => rootOf (tv tm t) :: anOf tm l
theorem anOf_nil {tm : List (Nat × AV)} : anOf tm [] = [] := rfl
theorem anOf_cons {tm : List (Nat × AV)} {t : Nat} {l : List Nat} : anOf tm (t :: l) = rootOf (tv tm t) :: anOf tm l := rfl
theorem anOf_map {tm : List (Nat × AV)} : ∀ {l : List Nat}, l.map (fun t => rootOf (tv tm t)) = anOf tm l
  | [] => rfl
  | t :: l => by rw [List.map_cons, anOf_map (l := l)]; rfl
theorem subE_go {k : Nat} {viv : List (Nat × Nat × Nat)} {anch : List Nat} {e e' : Env} : SubE k viv anch e e' = SubR k (anOf (vivs viv e).tm anch) (vivs viv e) e' := by
  unfold SubE
  rw [anOf_map]
end Go.Ve
namespace Go.Ve
open Go.Proofs
set_option linter.unusedVariables false
@[go_sem] theorem ty_2 : tyOf Tryz.prog 2 = .int .i64 := by kernel_rfl
@[go_sem] theorem ce_2 : Tryz.prog.cellsOf 2 = 1 := by kernel_rfl
@[go_sem] theorem by_2 : Tryz.prog.bytesOf 2 = 8 := by kernel_rfl
@[go_sem] theorem io_2 : (Tryz.prog.info? 2).isSome = true := by kernel_rfl
@[go_sem] theorem zo_2 : zOk Tryz.prog 2 = true := by kernel_rfl
@[go_sem] theorem zc_2 : zcells Tryz.prog 2 = [.int .i64 0] := by kernel_rfl
@[go_sem] theorem ze_2 : zel Tryz.prog 2 = .int .i64 0 := by kernel_rfl
@[go_sem] theorem ty_3 : tyOf Tryz.prog 3 = .int .i64 := by kernel_rfl
@[go_sem] theorem ce_3 : Tryz.prog.cellsOf 3 = 1 := by kernel_rfl
@[go_sem] theorem io_3 : (Tryz.prog.info? 3).isSome = true := by kernel_rfl
@[go_sem] theorem zo_3 : zOk Tryz.prog 3 = true := by kernel_rfl
@[go_sem] theorem ty_4 : tyOf Tryz.prog 4 = .bool := by kernel_rfl
@[go_sem] theorem ce_4 : Tryz.prog.cellsOf 4 = 1 := by kernel_rfl
@[go_sem] theorem io_4 : (Tryz.prog.info? 4).isSome = true := by kernel_rfl
@[go_sem] theorem ty_22 : tyOf Tryz.prog 22 = .sl 137 := by kernel_rfl
@[go_sem] theorem ce_22 : Tryz.prog.cellsOf 22 = 1 := by kernel_rfl
@[go_sem] theorem ty_23 : tyOf Tryz.prog 23 = .sl 123 := by kernel_rfl
@[go_sem] theorem ce_23 : Tryz.prog.cellsOf 23 = 1 := by kernel_rfl
@[go_sem] theorem ty_25 : tyOf Tryz.prog 25 = .agg := by kernel_rfl
@[go_sem] theorem ce_25 : Tryz.prog.cellsOf 25 = 2 := by kernel_rfl
@[go_sem] theorem fl_25_0 : fld Tryz.prog 25 0 = some (0, 22) := by kernel_rfl
@[go_sem] theorem fl_25_1 : fld Tryz.prog 25 1 = some (1, 23) := by kernel_rfl
@[go_sem] theorem ty_27 : tyOf Tryz.prog 27 = .agg := by kernel_rfl
@[go_sem] theorem ce_27 : Tryz.prog.cellsOf 27 = 4 := by kernel_rfl
@[go_sem] theorem io_27 : (Tryz.prog.info? 27).isSome = true := by kernel_rfl
@[go_sem] theorem fl_27_0 : fld Tryz.prog 27 0 = some (0, 2) := by kernel_rfl
@[go_sem] theorem fl_27_1 : fld Tryz.prog 27 1 = some (1, 2) := by kernel_rfl
@[go_sem] theorem fl_27_2 : fld Tryz.prog 27 2 = some (2, 2) := by kernel_rfl
@[go_sem] theorem fl_27_3 : fld Tryz.prog 27 3 = some (3, 4) := by kernel_rfl
@[go_sem] theorem ty_28 : tyOf Tryz.prog 28 = .sl 2 := by kernel_rfl
@[go_sem] theorem ce_28 : Tryz.prog.cellsOf 28 = 1 := by kernel_rfl
@[go_sem] theorem io_28 : (Tryz.prog.info? 28).isSome = true := by kernel_rfl
@[go_sem] theorem ty_30 : tyOf Tryz.prog 30 = .agg := by kernel_rfl
@[go_sem] theorem ce_30 : Tryz.prog.cellsOf 30 = 2 := by kernel_rfl
@[go_sem] theorem fl_30_0 : fld Tryz.prog 30 0 = some (0, 2) := by kernel_rfl
@[go_sem] theorem fl_30_1 : fld Tryz.prog 30 1 = some (1, 2) := by kernel_rfl
@[go_sem] theorem ty_31 : tyOf Tryz.prog 31 = .sl 96 := by kernel_rfl
@[go_sem] theorem ty_36 : tyOf Tryz.prog 36 = .sl 135 := by kernel_rfl
@[go_sem] theorem ce_36 : Tryz.prog.cellsOf 36 = 1 := by kernel_rfl
@[go_sem] theorem io_36 : (Tryz.prog.info? 36).isSome = true := by kernel_rfl
@[go_sem] theorem ty_37 : tyOf Tryz.prog 37 = .sl 125 := by kernel_rfl
@[go_sem] theorem ce_37 : Tryz.prog.cellsOf 37 = 1 := by kernel_rfl
@[go_sem] theorem io_37 : (Tryz.prog.info? 37).isSome = true := by kernel_rfl
@[go_sem] theorem ty_39 : tyOf Tryz.prog 39 = .agg := by kernel_rfl
@[go_sem] theorem ce_39 : Tryz.prog.cellsOf 39 = 2 := by kernel_rfl
@[go_sem] theorem io_39 : (Tryz.prog.info? 39).isSome = true := by kernel_rfl
@[go_sem] theorem zo_39 : zOk Tryz.prog 39 = true := by kernel_rfl
@[go_sem] theorem zc_39 : zcells Tryz.prog 39 = [.nils, .nils] := by kernel_rfl
@[go_sem] theorem fl_39_0 : fld Tryz.prog 39 0 = some (0, 36) := by kernel_rfl
@[go_sem] theorem fl_39_1 : fld Tryz.prog 39 1 = some (1, 37) := by kernel_rfl
@[go_sem] theorem ty_41 : tyOf Tryz.prog 41 = .agg := by kernel_rfl
@[go_sem] theorem ce_41 : Tryz.prog.cellsOf 41 = 4 := by kernel_rfl
@[go_sem] theorem by_41 : Tryz.prog.bytesOf 41 = 32 := by kernel_rfl
@[go_sem] theorem io_41 : (Tryz.prog.info? 41).isSome = true := by kernel_rfl
@[go_sem] theorem zo_41 : zOk Tryz.prog 41 = true := by kernel_rfl
@[go_sem] theorem zc_41 : zcells Tryz.prog 41 = [.int .i64 0, .int .i64 0, .int .i64 0, .bool false] := by kernel_rfl
@[go_sem] theorem ze_41 : zel Tryz.prog 41 = .agg [.int .i64 0, .int .i64 0, .int .i64 0, .bool false] := by kernel_rfl
@[go_sem] theorem fl_41_0 : fld Tryz.prog 41 0 = some (0, 2) := by kernel_rfl
@[go_sem] theorem fl_41_1 : fld Tryz.prog 41 1 = some (1, 2) := by kernel_rfl
@[go_sem] theorem fl_41_2 : fld Tryz.prog 41 2 = some (2, 2) := by kernel_rfl
@[go_sem] theorem fl_41_3 : fld Tryz.prog 41 3 = some (3, 4) := by kernel_rfl
@[go_sem] theorem ty_44 : tyOf Tryz.prog 44 = .agg := by kernel_rfl
@[go_sem] theorem ce_44 : Tryz.prog.cellsOf 44 = 2 := by kernel_rfl
@[go_sem] theorem io_44 : (Tryz.prog.info? 44).isSome = true := by kernel_rfl
@[go_sem] theorem zo_44 : zOk Tryz.prog 44 = true := by kernel_rfl
@[go_sem] theorem zc_44 : zcells Tryz.prog 44 = [.int .i64 0, .int .i64 0] := by kernel_rfl
@[go_sem] theorem fl_44_0 : fld Tryz.prog 44 0 = some (0, 2) := by kernel_rfl
@[go_sem] theorem fl_44_1 : fld Tryz.prog 44 1 = some (1, 2) := by kernel_rfl
@[go_sem] theorem ty_46 : tyOf Tryz.prog 46 = .sl 93 := by kernel_rfl
@[go_sem] theorem ty_55 : tyOf Tryz.prog 55 = .sl 27 := by kernel_rfl
@[go_sem] theorem ce_55 : Tryz.prog.cellsOf 55 = 1 := by kernel_rfl
@[go_sem] theorem ty_56 : tyOf Tryz.prog 56 = .sl 160 := by kernel_rfl
@[go_sem] theorem ce_56 : Tryz.prog.cellsOf 56 = 1 := by kernel_rfl
@[go_sem] theorem ty_58 : tyOf Tryz.prog 58 = .agg := by kernel_rfl
@[go_sem] theorem ce_58 : Tryz.prog.cellsOf 58 = 8 := by kernel_rfl
@[go_sem] theorem fl_58_0 : fld Tryz.prog 58 0 = some (0, 2) := by kernel_rfl
@[go_sem] theorem fl_58_1 : fld Tryz.prog 58 1 = some (1, 2) := by kernel_rfl
@[go_sem] theorem fl_58_2 : fld Tryz.prog 58 2 = some (2, 25) := by kernel_rfl
@[go_sem] theorem fl_58_3 : fld Tryz.prog 58 3 = some (4, 55) := by kernel_rfl
@[go_sem] theorem fl_58_4 : fld Tryz.prog 58 4 = some (5, 56) := by kernel_rfl
@[go_sem] theorem fl_58_5 : fld Tryz.prog 58 5 = some (6, 28) := by kernel_rfl
@[go_sem] theorem fl_58_6 : fld Tryz.prog 58 6 = some (7, 28) := by kernel_rfl
@[go_sem] theorem ty_62 : tyOf Tryz.prog 62 = .sl 41 := by kernel_rfl
@[go_sem] theorem ce_62 : Tryz.prog.cellsOf 62 = 1 := by kernel_rfl
@[go_sem] theorem io_62 : (Tryz.prog.info? 62).isSome = true := by kernel_rfl
@[go_sem] theorem ty_63 : tyOf Tryz.prog 63 = .sl 152 := by kernel_rfl
@[go_sem] theorem ce_63 : Tryz.prog.cellsOf 63 = 1 := by kernel_rfl
@[go_sem] theorem io_63 : (Tryz.prog.info? 63).isSome = true := by kernel_rfl
@[go_sem] theorem ty_65 : tyOf Tryz.prog 65 = .agg := by kernel_rfl
@[go_sem] theorem ce_65 : Tryz.prog.cellsOf 65 = 8 := by kernel_rfl
@[go_sem] theorem io_65 : (Tryz.prog.info? 65).isSome = true := by kernel_rfl
@[go_sem] theorem zo_65 : zOk Tryz.prog 65 = true := by kernel_rfl
@[go_sem] theorem zc_65 : zcells Tryz.prog 65 = [.int .i64 0, .int .i64 0, .nils, .nils, .nils, .nils, .nils, .nils] := by kernel_rfl
@[go_sem] theorem fl_65_0 : fld Tryz.prog 65 0 = some (0, 2) := by kernel_rfl
@[go_sem] theorem fl_65_1 : fld Tryz.prog 65 1 = some (1, 2) := by kernel_rfl
@[go_sem] theorem fl_65_2 : fld Tryz.prog 65 2 = some (2, 39) := by kernel_rfl
@[go_sem] theorem fl_65_3 : fld Tryz.prog 65 3 = some (4, 62) := by kernel_rfl
@[go_sem] theorem fl_65_4 : fld Tryz.prog 65 4 = some (5, 63) := by kernel_rfl
@[go_sem] theorem fl_65_5 : fld Tryz.prog 65 5 = some (6, 28) := by kernel_rfl
@[go_sem] theorem fl_65_6 : fld Tryz.prog 65 6 = some (7, 28) := by kernel_rfl
@[go_sem] theorem ty_93 : tyOf Tryz.prog 93 = .agg := by kernel_rfl
@[go_sem] theorem ce_93 : Tryz.prog.cellsOf 93 = 4 := by kernel_rfl
@[go_sem] theorem by_93 : Tryz.prog.bytesOf 93 = 32 := by kernel_rfl
@[go_sem] theorem io_93 : (Tryz.prog.info? 93).isSome = true := by kernel_rfl
@[go_sem] theorem zo_93 : zOk Tryz.prog 93 = true := by kernel_rfl
@[go_sem] theorem zc_93 : zcells Tryz.prog 93 = [.int .i64 0, .int .i64 0, .int .i64 0, .int .i64 0] := by kernel_rfl
@[go_sem] theorem ze_93 : zel Tryz.prog 93 = .agg [.int .i64 0, .int .i64 0, .int .i64 0, .int .i64 0] := by kernel_rfl
@[go_sem] theorem fl_93_0 : fld Tryz.prog 93 0 = some (0, 44) := by kernel_rfl
@[go_sem] theorem fl_93_1 : fld Tryz.prog 93 1 = some (2, 2) := by kernel_rfl
@[go_sem] theorem fl_93_2 : fld Tryz.prog 93 2 = some (3, 2) := by kernel_rfl
@[go_sem] theorem ty_96 : tyOf Tryz.prog 96 = .agg := by kernel_rfl
@[go_sem] theorem ce_96 : Tryz.prog.cellsOf 96 = 4 := by kernel_rfl
@[go_sem] theorem io_96 : (Tryz.prog.info? 96).isSome = true := by kernel_rfl
@[go_sem] theorem fl_96_0 : fld Tryz.prog 96 0 = some (0, 30) := by kernel_rfl
@[go_sem] theorem fl_96_1 : fld Tryz.prog 96 1 = some (2, 2) := by kernel_rfl
@[go_sem] theorem fl_96_2 : fld Tryz.prog 96 2 = some (3, 2) := by kernel_rfl
@[go_sem] theorem ty_123 : tyOf Tryz.prog 123 = .agg := by kernel_rfl
@[go_sem] theorem ce_123 : Tryz.prog.cellsOf 123 = 3 := by kernel_rfl
@[go_sem] theorem io_123 : (Tryz.prog.info? 123).isSome = true := by kernel_rfl
@[go_sem] theorem fl_123_0 : fld Tryz.prog 123 0 = some (0, 2) := by kernel_rfl
@[go_sem] theorem fl_123_1 : fld Tryz.prog 123 1 = some (1, 2) := by kernel_rfl
@[go_sem] theorem fl_123_2 : fld Tryz.prog 123 2 = some (2, 28) := by kernel_rfl
@[go_sem] theorem ty_125 : tyOf Tryz.prog 125 = .agg := by kernel_rfl
@[go_sem] theorem ce_125 : Tryz.prog.cellsOf 125 = 3 := by kernel_rfl
@[go_sem] theorem by_125 : Tryz.prog.bytesOf 125 = 40 := by kernel_rfl
@[go_sem] theorem io_125 : (Tryz.prog.info? 125).isSome = true := by kernel_rfl
@[go_sem] theorem zo_125 : zOk Tryz.prog 125 = true := by kernel_rfl
@[go_sem] theorem zc_125 : zcells Tryz.prog 125 = [.int .i64 0, .int .i64 0, .nils] := by kernel_rfl
@[go_sem] theorem ze_125 : zel Tryz.prog 125 = .agg [.int .i64 0, .int .i64 0, .nils] := by kernel_rfl
@[go_sem] theorem fl_125_0 : fld Tryz.prog 125 0 = some (0, 2) := by kernel_rfl
@[go_sem] theorem fl_125_1 : fld Tryz.prog 125 1 = some (1, 2) := by kernel_rfl
@[go_sem] theorem fl_125_2 : fld Tryz.prog 125 2 = some (2, 28) := by kernel_rfl
@[go_sem] theorem ty_135 : tyOf Tryz.prog 135 = .agg := by kernel_rfl
@[go_sem] theorem ce_135 : Tryz.prog.cellsOf 135 = 2 := by kernel_rfl
@[go_sem] theorem by_135 : Tryz.prog.bytesOf 135 = 16 := by kernel_rfl
@[go_sem] theorem io_135 : (Tryz.prog.info? 135).isSome = true := by kernel_rfl
@[go_sem] theorem zo_135 : zOk Tryz.prog 135 = true := by kernel_rfl
@[go_sem] theorem zc_135 : zcells Tryz.prog 135 = [.int .i64 0, .int .i64 0] := by kernel_rfl
@[go_sem] theorem ze_135 : zel Tryz.prog 135 = .agg [.int .i64 0, .int .i64 0] := by kernel_rfl
@[go_sem] theorem fl_135_0 : fld Tryz.prog 135 0 = some (0, 2) := by kernel_rfl
@[go_sem] theorem fl_135_1 : fld Tryz.prog 135 1 = some (1, 2) := by kernel_rfl
@[go_sem] theorem ty_137 : tyOf Tryz.prog 137 = .agg := by kernel_rfl
@[go_sem] theorem ce_137 : Tryz.prog.cellsOf 137 = 2 := by kernel_rfl
@[go_sem] theorem io_137 : (Tryz.prog.info? 137).isSome = true := by kernel_rfl
@[go_sem] theorem fl_137_0 : fld Tryz.prog 137 0 = some (0, 2) := by kernel_rfl
@[go_sem] theorem fl_137_1 : fld Tryz.prog 137 1 = some (1, 2) := by kernel_rfl
@[go_sem] theorem ty_142 : tyOf Tryz.prog 142 = .mp 2 4 := by kernel_rfl
@[go_sem] theorem zh_4 : zeroHas Tryz.prog 4 = true := by kernel_rfl
@[go_sem] theorem zv_4 : zeroAV Tryz.prog 4 = .bool false := by kernel_rfl
@[go_sem] theorem ty_150 : tyOf Tryz.prog 150 = .agg := by kernel_rfl
@[go_sem] theorem ce_150 : Tryz.prog.cellsOf 150 = 2 := by kernel_rfl
@[go_sem] theorem io_150 : (Tryz.prog.info? 150).isSome = true := by kernel_rfl
@[go_sem] theorem zo_150 : zOk Tryz.prog 150 = true := by kernel_rfl
@[go_sem] theorem zc_150 : zcells Tryz.prog 150 = [.int .i64 0, .int .i64 0] := by kernel_rfl
@[go_sem] theorem fl_150_0 : fld Tryz.prog 150 0 = some (0, 2) := by kernel_rfl
@[go_sem] theorem fl_150_1 : fld Tryz.prog 150 1 = some (1, 2) := by kernel_rfl
@[go_sem] theorem ty_152 : tyOf Tryz.prog 152 = .agg := by kernel_rfl
@[go_sem] theorem ce_152 : Tryz.prog.cellsOf 152 = 6 := by kernel_rfl
@[go_sem] theorem by_152 : Tryz.prog.bytesOf 152 = 48 := by kernel_rfl
@[go_sem] theorem io_152 : (Tryz.prog.info? 152).isSome = true := by kernel_rfl
@[go_sem] theorem zo_152 : zOk Tryz.prog 152 = true := by kernel_rfl
@[go_sem] theorem zc_152 : zcells Tryz.prog 152 = [.int .i64 0, .int .i64 0, .int .i64 0, .int .i64 0, .int .i64 0, .int .i64 0] := by kernel_rfl
@[go_sem] theorem ze_152 : zel Tryz.prog 152 = .agg [.int .i64 0, .int .i64 0, .int .i64 0, .int .i64 0, .int .i64 0, .int .i64 0] := by kernel_rfl
@[go_sem] theorem fl_152_0 : fld Tryz.prog 152 0 = some (0, 2) := by kernel_rfl
@[go_sem] theorem fl_152_1 : fld Tryz.prog 152 1 = some (1, 150) := by kernel_rfl
@[go_sem] theorem fl_152_2 : fld Tryz.prog 152 2 = some (3, 2) := by kernel_rfl
@[go_sem] theorem fl_152_3 : fld Tryz.prog 152 3 = some (4, 2) := by kernel_rfl
@[go_sem] theorem fl_152_4 : fld Tryz.prog 152 4 = some (5, 2) := by kernel_rfl
@[go_sem] theorem ty_158 : tyOf Tryz.prog 158 = .agg := by kernel_rfl
@[go_sem] theorem ce_158 : Tryz.prog.cellsOf 158 = 2 := by kernel_rfl
@[go_sem] theorem fl_158_0 : fld Tryz.prog 158 0 = some (0, 2) := by kernel_rfl
@[go_sem] theorem fl_158_1 : fld Tryz.prog 158 1 = some (1, 2) := by kernel_rfl
@[go_sem] theorem ty_160 : tyOf Tryz.prog 160 = .agg := by kernel_rfl
@[go_sem] theorem ce_160 : Tryz.prog.cellsOf 160 = 6 := by kernel_rfl
@[go_sem] theorem io_160 : (Tryz.prog.info? 160).isSome = true := by kernel_rfl
@[go_sem] theorem fl_160_0 : fld Tryz.prog 160 0 = some (0, 2) := by kernel_rfl
@[go_sem] theorem fl_160_1 : fld Tryz.prog 160 1 = some (1, 158) := by kernel_rfl
@[go_sem] theorem fl_160_2 : fld Tryz.prog 160 2 = some (3, 2) := by kernel_rfl
@[go_sem] theorem fl_160_3 : fld Tryz.prog 160 3 = some (4, 2) := by kernel_rfl
@[go_sem] theorem fl_160_4 : fld Tryz.prog 160 4 = some (5, 2) := by kernel_rfl
@[go_sem] theorem ty_162 : tyOf Tryz.prog 162 = .ptr := by kernel_rfl
@[go_sem] theorem ty_165 : tyOf Tryz.prog 165 = .ptr := by kernel_rfl
@[go_sem] theorem ty_208 : tyOf Tryz.prog 208 = .int .u64 := by kernel_rfl
@[go_sem] theorem ty_209 : tyOf Tryz.prog 209 = .ptr := by kernel_rfl
@[go_sem] theorem ty_211 : tyOf Tryz.prog 211 = .sl 3 := by kernel_rfl
@[go_sem] theorem ty_219 : tyOf Tryz.prog 219 = .int .u32 := by kernel_rfl
@[go_sem] theorem ty_243 : tyOf Tryz.prog 243 = .sl 244 := by kernel_rfl
@[go_sem] theorem ty_244 : tyOf Tryz.prog 244 = .agg := by kernel_rfl
@[go_sem] theorem ce_244 : Tryz.prog.cellsOf 244 = 2 := by kernel_rfl
@[go_sem] theorem by_244 : Tryz.prog.bytesOf 244 = 16 := by kernel_rfl
@[go_sem] theorem io_244 : (Tryz.prog.info? 244).isSome = true := by kernel_rfl
@[go_sem] theorem zo_244 : zOk Tryz.prog 244 = true := by kernel_rfl
@[go_sem] theorem zc_244 : zcells Tryz.prog 244 = [.int .i64 0, .int .i64 0] := by kernel_rfl
@[go_sem] theorem fo_244 : fldsOk Tryz.prog 244 = true := by kernel_rfl
@[go_sem] theorem fl_244_0 : fld Tryz.prog 244 0 = some (0, 2) := by kernel_rfl
@[go_sem] theorem fl_244_1 : fld Tryz.prog 244 1 = some (1, 2) := by kernel_rfl
theorem hm : Tryz.prog.follows .mixedOrders = true := by kernel_rfl
end Go.Ve
namespace Go.Ve
open Go.Proofs Go.RowKit
set_option linter.unusedVariables false
set_option linter.unusedSimpArgs false
set_option maxRecDepth 10000
set_option maxHeartbeats 4000000
structure Dev where
  id : Int
  weight : Int
  deriving Inhabited
def toDev (p : Int × Int) : Dev := ⟨p.1, p.2⟩
def ofDev (x : Dev) : Int × Int := (x.id, x.weight)
def enDev : En Dev := En.iso ((En.int .i64).prod (En.int .i64)) ofDev toDev (fun _ => rfl)
@[go_sem] theorem av_Dev {τ : Nat} {x : Dev} : enDev.av τ x = .agg [.int .i64 x.id, .int .i64 x.weight] := rfl
@[go_sem] theorem cs_Dev {τ : Nat} {x : Dev} : enDev.cs τ x = [.int .i64 x.id, .int .i64 x.weight] := rfl
theorem tot_Dev {x : Dev} : enDev.tot x = 0 := by
  show enDev.tot x = _
  simp [enDev, En.iso, En.prod, ofDev, En.int, En.bool, En.str, tot_list, sum_zero]
@[go_sem] theorem w_Dev : enDev.w = 2 := rfl
theorem eq_Dev {x y : Dev} : x = y ↔ x.id = y.id ∧ x.weight = y.weight := by
  cases x; cases y; simp
def okDev (x : Dev) : Prop := (Lit.int .i64 x.id).wf = true ∧ (Lit.int .i64 x.weight).wf = true
theorem fit_137 : FitE Tryz.prog 137 enDev := ⟨by simp only [go_sem], by simp only [go_sem], fun τ x => by simp [go_sem]⟩
theorem fit_135 : FitE Tryz.prog 135 enDev := ⟨by simp only [go_sem], by simp only [go_sem], fun τ x => by simp [go_sem]⟩
theorem fitz_135 : FitZ Tryz.prog 135 enDev := ⟨by simp only [go_sem], by simp only [go_sem], by simp only [go_sem], by simp [go_sem], by simp only [go_sem], by simp [go_sem], by simp [go_sem], fun τ x => by simp [go_sem, setEl]⟩
structure Bkt where
  id : Int
  kind : Int
  items : List Int
  deriving Inhabited
def toBkt (p : Int × Int × (List Int)) : Bkt := ⟨p.1, p.2.1, p.2.2⟩
def ofBkt (x : Bkt) : Int × Int × (List Int) := (x.id, (x.kind, x.items))
def enBkt : En Bkt := En.iso ((En.int .i64).prod ((En.int .i64).prod (En.int .i64).list)) ofBkt toBkt (fun _ => rfl)
@[go_sem] theorem av_Bkt {τ : Nat} {x : Bkt} : enBkt.av τ x = .agg [.int .i64 x.id, .int .i64 x.kind, .sl τ 1 (x.items.map (AV.int .i64))] := rfl
@[go_sem] theorem cs_Bkt {τ : Nat} {x : Bkt} : enBkt.cs τ x = [.int .i64 x.id, .int .i64 x.kind, .sl τ 1 (x.items.map (AV.int .i64))] := rfl
theorem tot_Bkt {x : Bkt} : enBkt.tot x = x.items.length := by
  show enBkt.tot x = _
  simp [enBkt, En.iso, En.prod, ofBkt, En.int, En.bool, En.str, tot_list, sum_zero, sum_flat (E := (En.int .i64)) (fun _ => rfl)]
@[go_sem] theorem w_Bkt : enBkt.w = 3 := rfl
theorem eq_Bkt {x y : Bkt} : x = y ↔ x.id = y.id ∧ x.kind = y.kind ∧ x.items = y.items := by
  cases x; cases y; simp
def okBkt (x : Bkt) : Prop := (Lit.int .i64 x.id).wf = true ∧ (Lit.int .i64 x.kind).wf = true ∧ (x.items.length ≤ maxLen ∧ x.items.length * 8 ≤ 140737488351232 ∧ ∀ y1 ∈ x.items, (Lit.int .i64 y1).wf = true)
theorem fit_123 : FitE Tryz.prog 123 enBkt := ⟨by simp only [go_sem], by simp only [go_sem], fun τ x => by simp [go_sem]⟩
theorem fit_125 : FitE Tryz.prog 125 enBkt := ⟨by simp only [go_sem], by simp only [go_sem], fun τ x => by simp [go_sem]⟩
theorem fitz_125 : FitZ Tryz.prog 125 enBkt := ⟨by simp only [go_sem], by simp only [go_sem], by simp only [go_sem], by simp [go_sem], by simp only [go_sem], by simp [go_sem], by simp [go_sem], fun τ x => by simp [go_sem, setEl]⟩
structure Tree where
  devices : List Dev
  buckets : List Bkt
  deriving Inhabited
def toTree (p : (List Dev) × (List Bkt)) : Tree := ⟨p.1, p.2⟩
def ofTree (x : Tree) : (List Dev) × (List Bkt) := (x.devices, x.buckets)
def enTree : En Tree := En.iso (enDev.list.prod enBkt.list) ofTree toTree (fun _ => rfl)
@[go_sem] theorem av_Tree {τ : Nat} {x : Tree} : enTree.av τ x = .agg [.sl τ 2 (x.devices.map (enDev.av τ)), .sl τ 3 (x.buckets.map (enBkt.av τ))] := rfl
@[go_sem] theorem cs_Tree {τ : Nat} {x : Tree} : enTree.cs τ x = [.sl τ 2 (x.devices.map (enDev.av τ)), .sl τ 3 (x.buckets.map (enBkt.av τ))] := rfl
theorem tot_Tree {x : Tree} : enTree.tot x = (x.devices.length + (x.buckets.length + (x.buckets.map enBkt.tot).sum)) := by
  show enTree.tot x = _
  simp [enTree, En.iso, En.prod, ofTree, En.int, En.bool, En.str, tot_list, sum_zero, sum_flat (E := enDev) (fun _ => tot_Dev)]
  try omega
@[go_sem] theorem w_Tree : enTree.w = 2 := rfl
theorem eq_Tree {x y : Tree} : x = y ↔ x.devices = y.devices ∧ x.buckets = y.buckets := by
  cases x; cases y; simp
def okTree (x : Tree) : Prop := (x.devices.length ≤ maxLen ∧ x.devices.length * 16 ≤ 140737488351232 ∧ ∀ y1 ∈ x.devices, okDev y1) ∧ (x.buckets.length ≤ maxLen ∧ x.buckets.length * 40 ≤ 140737488351232 ∧ ∀ y1 ∈ x.buckets, okBkt y1)
structure Rule where
  id : Int
  root : Int
  kind : Int
  indep : Bool
  deriving Inhabited
def toRule (p : Int × Int × Int × Bool) : Rule := ⟨p.1, p.2.1, p.2.2.1, p.2.2.2⟩
def ofRule (x : Rule) : Int × Int × Int × Bool := (x.id, (x.root, (x.kind, x.indep)))
def enRule : En Rule := En.iso ((En.int .i64).prod ((En.int .i64).prod ((En.int .i64).prod En.bool))) ofRule toRule (fun _ => rfl)
@[go_sem] theorem av_Rule {τ : Nat} {x : Rule} : enRule.av τ x = .agg [.int .i64 x.id, .int .i64 x.root, .int .i64 x.kind, .bool x.indep] := rfl
@[go_sem] theorem cs_Rule {τ : Nat} {x : Rule} : enRule.cs τ x = [.int .i64 x.id, .int .i64 x.root, .int .i64 x.kind, .bool x.indep] := rfl
theorem tot_Rule {x : Rule} : enRule.tot x = 0 := by
  show enRule.tot x = _
  simp [enRule, En.iso, En.prod, ofRule, En.int, En.bool, En.str, tot_list, sum_zero]
@[go_sem] theorem w_Rule : enRule.w = 4 := rfl
theorem eq_Rule {x y : Rule} : x = y ↔ x.id = y.id ∧ x.root = y.root ∧ x.kind = y.kind ∧ x.indep = y.indep := by
  cases x; cases y; simp
def okRule (x : Rule) : Prop := (Lit.int .i64 x.id).wf = true ∧ (Lit.int .i64 x.root).wf = true ∧ (Lit.int .i64 x.kind).wf = true ∧ True
theorem fit_27 : FitE Tryz.prog 27 enRule := ⟨by simp only [go_sem], by simp only [go_sem], fun τ x => by simp [go_sem]⟩
theorem fit_41 : FitE Tryz.prog 41 enRule := ⟨by simp only [go_sem], by simp only [go_sem], fun τ x => by simp [go_sem]⟩
theorem fitz_41 : FitZ Tryz.prog 41 enRule := ⟨by simp only [go_sem], by simp only [go_sem], by simp only [go_sem], by simp [go_sem], by simp only [go_sem], by simp [go_sem], by simp [go_sem], fun τ x => by simp [go_sem, setEl]⟩
structure Code where
  k : Int
  m : Int
  deriving Inhabited
def toCode (p : Int × Int) : Code := ⟨p.1, p.2⟩
def ofCode (x : Code) : Int × Int := (x.k, x.m)
def enCode : En Code := En.iso ((En.int .i64).prod (En.int .i64)) ofCode toCode (fun _ => rfl)
@[go_sem] theorem av_Code {τ : Nat} {x : Code} : enCode.av τ x = .agg [.int .i64 x.k, .int .i64 x.m] := rfl
@[go_sem] theorem cs_Code {τ : Nat} {x : Code} : enCode.cs τ x = [.int .i64 x.k, .int .i64 x.m] := rfl
theorem tot_Code {x : Code} : enCode.tot x = 0 := by
  show enCode.tot x = _
  simp [enCode, En.iso, En.prod, ofCode, En.int, En.bool, En.str, tot_list, sum_zero]
@[go_sem] theorem w_Code : enCode.w = 2 := rfl
theorem eq_Code {x y : Code} : x = y ↔ x.k = y.k ∧ x.m = y.m := by
  cases x; cases y; simp
def okCode (x : Code) : Prop := (Lit.int .i64 x.k).wf = true ∧ (Lit.int .i64 x.m).wf = true
structure Pool where
  id : Int
  code : Code
  min : Int
  pgs : Int
  rule : Int
  deriving Inhabited
def toPool (p : Int × Code × Int × Int × Int) : Pool := ⟨p.1, p.2.1, p.2.2.1, p.2.2.2.1, p.2.2.2.2⟩
def ofPool (x : Pool) : Int × Code × Int × Int × Int := (x.id, (x.code, (x.min, (x.pgs, x.rule))))
def enPool : En Pool := En.iso ((En.int .i64).prod (enCode.prod ((En.int .i64).prod ((En.int .i64).prod (En.int .i64))))) ofPool toPool (fun _ => rfl)
@[go_sem] theorem av_Pool {τ : Nat} {x : Pool} : enPool.av τ x = .agg [.int .i64 x.id, .int .i64 x.code.k, .int .i64 x.code.m, .int .i64 x.min, .int .i64 x.pgs, .int .i64 x.rule] := rfl
@[go_sem] theorem cs_Pool {τ : Nat} {x : Pool} : enPool.cs τ x = [.int .i64 x.id, .int .i64 x.code.k, .int .i64 x.code.m, .int .i64 x.min, .int .i64 x.pgs, .int .i64 x.rule] := rfl
theorem tot_Pool {x : Pool} : enPool.tot x = 0 := by
  show enPool.tot x = _
  simp [enPool, En.iso, En.prod, ofPool, En.int, En.bool, En.str, tot_list, sum_zero, tot_Code]
@[go_sem] theorem w_Pool : enPool.w = 6 := rfl
theorem eq_Pool {x y : Pool} : x = y ↔ x.id = y.id ∧ x.code = y.code ∧ x.min = y.min ∧ x.pgs = y.pgs ∧ x.rule = y.rule := by
  cases x; cases y; simp
def okPool (x : Pool) : Prop := (Lit.int .i64 x.id).wf = true ∧ okCode x.code ∧ (Lit.int .i64 x.min).wf = true ∧ (Lit.int .i64 x.pgs).wf = true ∧ (Lit.int .i64 x.rule).wf = true
theorem fit_160 : FitE Tryz.prog 160 enPool := ⟨by simp only [go_sem], by simp only [go_sem], fun τ x => by simp [go_sem]⟩
theorem fit_152 : FitE Tryz.prog 152 enPool := ⟨by simp only [go_sem], by simp only [go_sem], fun τ x => by simp [go_sem]⟩
theorem fitz_152 : FitZ Tryz.prog 152 enPool := ⟨by simp only [go_sem], by simp only [go_sem], by simp only [go_sem], by simp [go_sem], by simp only [go_sem], by simp [go_sem], by simp [go_sem], fun τ x => by simp [go_sem, setEl]⟩
structure Mp where
  epoch : Int
  term : Int
  tree : Tree
  rules : List Rule
  pools : List Pool
  up : List Int
  out : List Int
  deriving Inhabited
def toMp (p : Int × Int × Tree × (List Rule) × (List Pool) × (List Int) × (List Int)) : Mp := ⟨p.1, p.2.1, p.2.2.1, p.2.2.2.1, p.2.2.2.2.1, p.2.2.2.2.2.1, p.2.2.2.2.2.2⟩
def ofMp (x : Mp) : Int × Int × Tree × (List Rule) × (List Pool) × (List Int) × (List Int) := (x.epoch, (x.term, (x.tree, (x.rules, (x.pools, (x.up, x.out))))))
def enMp : En Mp := En.iso ((En.int .i64).prod ((En.int .i64).prod (enTree.prod (enRule.list.prod (enPool.list.prod ((En.int .i64).list.prod (En.int .i64).list)))))) ofMp toMp (fun _ => rfl)
@[go_sem] theorem av_Mp {τ : Nat} {x : Mp} : enMp.av τ x = .agg [.int .i64 x.epoch, .int .i64 x.term, .sl τ 2 (x.tree.devices.map (enDev.av τ)), .sl τ 3 (x.tree.buckets.map (enBkt.av τ)), .sl τ 4 (x.rules.map (enRule.av τ)), .sl τ 6 (x.pools.map (enPool.av τ)), .sl τ 1 (x.up.map (AV.int .i64)), .sl τ 1 (x.out.map (AV.int .i64))] := rfl
@[go_sem] theorem cs_Mp {τ : Nat} {x : Mp} : enMp.cs τ x = [.int .i64 x.epoch, .int .i64 x.term, .sl τ 2 (x.tree.devices.map (enDev.av τ)), .sl τ 3 (x.tree.buckets.map (enBkt.av τ)), .sl τ 4 (x.rules.map (enRule.av τ)), .sl τ 6 (x.pools.map (enPool.av τ)), .sl τ 1 (x.up.map (AV.int .i64)), .sl τ 1 (x.out.map (AV.int .i64))] := rfl
theorem tot_Mp {x : Mp} : enMp.tot x = ((x.tree.devices.length + (x.tree.buckets.length + (x.tree.buckets.map enBkt.tot).sum)) + x.rules.length + x.pools.length + x.up.length + x.out.length) := by
  show enMp.tot x = _
  simp [enMp, En.iso, En.prod, ofMp, En.int, En.bool, En.str, tot_list, sum_zero, sum_flat (E := (En.int .i64)) (fun _ => rfl), sum_flat (E := enDev) (fun _ => tot_Dev), sum_flat (E := enPool) (fun _ => tot_Pool), sum_flat (E := enRule) (fun _ => tot_Rule), tot_Tree]
  try omega
@[go_sem] theorem w_Mp : enMp.w = 8 := rfl
theorem eq_Mp {x y : Mp} : x = y ↔ x.epoch = y.epoch ∧ x.term = y.term ∧ x.tree = y.tree ∧ x.rules = y.rules ∧ x.pools = y.pools ∧ x.up = y.up ∧ x.out = y.out := by
  cases x; cases y; simp
def okMp (x : Mp) : Prop := (Lit.int .i64 x.epoch).wf = true ∧ (Lit.int .i64 x.term).wf = true ∧ okTree x.tree ∧ (x.rules.length ≤ maxLen ∧ x.rules.length * 32 ≤ 140737488351232 ∧ ∀ y1 ∈ x.rules, okRule y1) ∧ (x.pools.length ≤ maxLen ∧ x.pools.length * 48 ≤ 140737488351232 ∧ ∀ y1 ∈ x.pools, okPool y1) ∧ (x.up.length ≤ maxLen ∧ x.up.length * 8 ≤ 140737488351232 ∧ ∀ y1 ∈ x.up, (Lit.int .i64 y1).wf = true) ∧ (x.out.length ≤ maxLen ∧ x.out.length * 8 ≤ 140737488351232 ∧ ∀ y1 ∈ x.out, (Lit.int .i64 y1).wf = true)
structure Pg where
  pool : Int
  no : Int
  deriving Inhabited
def toPg (p : Int × Int) : Pg := ⟨p.1, p.2⟩
def ofPg (x : Pg) : Int × Int := (x.pool, x.no)
def enPg : En Pg := En.iso ((En.int .i64).prod (En.int .i64)) ofPg toPg (fun _ => rfl)
@[go_sem] theorem av_Pg {τ : Nat} {x : Pg} : enPg.av τ x = .agg [.int .i64 x.pool, .int .i64 x.no] := rfl
@[go_sem] theorem cs_Pg {τ : Nat} {x : Pg} : enPg.cs τ x = [.int .i64 x.pool, .int .i64 x.no] := rfl
theorem tot_Pg {x : Pg} : enPg.tot x = 0 := by
  show enPg.tot x = _
  simp [enPg, En.iso, En.prod, ofPg, En.int, En.bool, En.str, tot_list, sum_zero]
@[go_sem] theorem w_Pg : enPg.w = 2 := rfl
theorem eq_Pg {x y : Pg} : x = y ↔ x.pool = y.pool ∧ x.no = y.no := by
  cases x; cases y; simp
def okPg (x : Pg) : Prop := (Lit.int .i64 x.pool).wf = true ∧ (Lit.int .i64 x.no).wf = true
structure Exc where
  pg : Pg
  from_ : Int
  to_ : Int
  deriving Inhabited
def toExc (p : Pg × Int × Int) : Exc := ⟨p.1, p.2.1, p.2.2⟩
def ofExc (x : Exc) : Pg × Int × Int := (x.pg, (x.from_, x.to_))
def enExc : En Exc := En.iso (enPg.prod ((En.int .i64).prod (En.int .i64))) ofExc toExc (fun _ => rfl)
@[go_sem] theorem av_Exc {τ : Nat} {x : Exc} : enExc.av τ x = .agg [.int .i64 x.pg.pool, .int .i64 x.pg.no, .int .i64 x.from_, .int .i64 x.to_] := rfl
@[go_sem] theorem cs_Exc {τ : Nat} {x : Exc} : enExc.cs τ x = [.int .i64 x.pg.pool, .int .i64 x.pg.no, .int .i64 x.from_, .int .i64 x.to_] := rfl
theorem tot_Exc {x : Exc} : enExc.tot x = 0 := by
  show enExc.tot x = _
  simp [enExc, En.iso, En.prod, ofExc, En.int, En.bool, En.str, tot_list, sum_zero, tot_Pg]
@[go_sem] theorem w_Exc : enExc.w = 4 := rfl
theorem eq_Exc {x y : Exc} : x = y ↔ x.pg = y.pg ∧ x.from_ = y.from_ ∧ x.to_ = y.to_ := by
  cases x; cases y; simp
def okExc (x : Exc) : Prop := okPg x.pg ∧ (Lit.int .i64 x.from_).wf = true ∧ (Lit.int .i64 x.to_).wf = true
theorem fit_96 : FitE Tryz.prog 96 enExc := ⟨by simp only [go_sem], by simp only [go_sem], fun τ x => by simp [go_sem]⟩
theorem fit_93 : FitE Tryz.prog 93 enExc := ⟨by simp only [go_sem], by simp only [go_sem], fun τ x => by simp [go_sem]⟩
theorem fitz_93 : FitZ Tryz.prog 93 enExc := ⟨by simp only [go_sem], by simp only [go_sem], by simp only [go_sem], by simp [go_sem], by simp only [go_sem], by simp [go_sem], by simp [go_sem], fun τ x => by simp [go_sem, setEl]⟩
theorem rd_137 : Reads Tryz.prog 137 (QE enDev okDev) := (reads_struct [(1, QE (En.int .i64) (fun x => (Lit.int .i64 x).wf = true)), (1, QE (En.int .i64) (fun x => (Lit.int .i64 x).wf = true))] Tryz.underlying137 (FieldsFit.cons rfl (by kernel_rfl) (rd_int Tryz.underlying2) (FieldsFit.cons rfl (by kernel_rfl) (rd_int Tryz.underlying2) (FieldsFit.nil (by kernel_rfl))))).imp fun w cs h => qe_iso (ok := fun p : Int × Int => (Lit.int .i64 p.1).wf = true ∧ (Lit.int .i64 p.2).wf = true) (fun _ => rfl) (rowq_cons (E := (En.int .i64)) (ok := fun x => (Lit.int .i64 x).wf = true) (fun cs h => rowq_one (E := (En.int .i64)) (ok := fun x => (Lit.int .i64 x).wf = true) h) h)
theorem rd_123 : Reads Tryz.prog 123 (QE enBkt okBkt) := (reads_struct [(1, QE (En.int .i64) (fun x => (Lit.int .i64 x).wf = true)), (1, QE (En.int .i64) (fun x => (Lit.int .i64 x).wf = true)), (1, QE (En.int .i64).list (fun x => (x.length ≤ maxLen ∧ x.length * 8 ≤ 140737488351232 ∧ ∀ y1 ∈ x, (Lit.int .i64 y1).wf = true)))] Tryz.underlying123 (FieldsFit.cons rfl (by kernel_rfl) (rd_int Tryz.underlying2) (FieldsFit.cons rfl (by kernel_rfl) (rd_int Tryz.underlying2) (FieldsFit.cons rfl (by kernel_rfl) (rd_list 8 Tryz.underlying28 (by kernel_rfl) (by kernel_rfl) (rd_int Tryz.underlying2)) (FieldsFit.nil (by kernel_rfl)))))).imp fun w cs h => qe_iso (ok := fun p : Int × Int × (List Int) => (Lit.int .i64 p.1).wf = true ∧ (Lit.int .i64 p.2.1).wf = true ∧ (p.2.2.length ≤ maxLen ∧ p.2.2.length * 8 ≤ 140737488351232 ∧ ∀ y1 ∈ p.2.2, (Lit.int .i64 y1).wf = true)) (fun _ => rfl) (rowq_cons (E := (En.int .i64)) (ok := fun x => (Lit.int .i64 x).wf = true) (fun cs h => rowq_cons (E := (En.int .i64)) (ok := fun x => (Lit.int .i64 x).wf = true) (fun cs h => rowq_one (E := (En.int .i64).list) (ok := fun x => (x.length ≤ maxLen ∧ x.length * 8 ≤ 140737488351232 ∧ ∀ y1 ∈ x, (Lit.int .i64 y1).wf = true)) h) h) h)
theorem rd_25 : Reads Tryz.prog 25 (QE enTree okTree) := (reads_struct [(1, QE enDev.list (fun x => (x.length ≤ maxLen ∧ x.length * 16 ≤ 140737488351232 ∧ ∀ y1 ∈ x, okDev y1))), (1, QE enBkt.list (fun x => (x.length ≤ maxLen ∧ x.length * 40 ≤ 140737488351232 ∧ ∀ y1 ∈ x, okBkt y1)))] Tryz.underlying25 (FieldsFit.cons rfl (by kernel_rfl) (rd_list 16 Tryz.underlying22 (by kernel_rfl) (by kernel_rfl) rd_137) (FieldsFit.cons rfl (by kernel_rfl) (rd_list 40 Tryz.underlying23 (by kernel_rfl) (by kernel_rfl) rd_123) (FieldsFit.nil (by kernel_rfl))))).imp fun w cs h => qe_iso (ok := fun p : (List Dev) × (List Bkt) => (p.1.length ≤ maxLen ∧ p.1.length * 16 ≤ 140737488351232 ∧ ∀ y1 ∈ p.1, okDev y1) ∧ (p.2.length ≤ maxLen ∧ p.2.length * 40 ≤ 140737488351232 ∧ ∀ y1 ∈ p.2, okBkt y1)) (fun _ => rfl) (rowq_cons (E := enDev.list) (ok := fun x => (x.length ≤ maxLen ∧ x.length * 16 ≤ 140737488351232 ∧ ∀ y1 ∈ x, okDev y1)) (fun cs h => rowq_one (E := enBkt.list) (ok := fun x => (x.length ≤ maxLen ∧ x.length * 40 ≤ 140737488351232 ∧ ∀ y1 ∈ x, okBkt y1)) h) h)
theorem rd_27 : Reads Tryz.prog 27 (QE enRule okRule) := (reads_struct [(1, QE (En.int .i64) (fun x => (Lit.int .i64 x).wf = true)), (1, QE (En.int .i64) (fun x => (Lit.int .i64 x).wf = true)), (1, QE (En.int .i64) (fun x => (Lit.int .i64 x).wf = true)), (1, QE En.bool (fun x => True))] Tryz.underlying27 (FieldsFit.cons rfl (by kernel_rfl) (rd_int Tryz.underlying2) (FieldsFit.cons rfl (by kernel_rfl) (rd_int Tryz.underlying2) (FieldsFit.cons rfl (by kernel_rfl) (rd_int Tryz.underlying2) (FieldsFit.cons rfl (by kernel_rfl) (rd_bool Tryz.underlying4) (FieldsFit.nil (by kernel_rfl))))))).imp fun w cs h => qe_iso (ok := fun p : Int × Int × Int × Bool => (Lit.int .i64 p.1).wf = true ∧ (Lit.int .i64 p.2.1).wf = true ∧ (Lit.int .i64 p.2.2.1).wf = true ∧ True) (fun _ => rfl) (rowq_cons (E := (En.int .i64)) (ok := fun x => (Lit.int .i64 x).wf = true) (fun cs h => rowq_cons (E := (En.int .i64)) (ok := fun x => (Lit.int .i64 x).wf = true) (fun cs h => rowq_cons (E := (En.int .i64)) (ok := fun x => (Lit.int .i64 x).wf = true) (fun cs h => rowq_one (E := En.bool) (ok := fun x => True) h) h) h) h)
theorem rd_158 : Reads Tryz.prog 158 (QE enCode okCode) := (reads_struct [(1, QE (En.int .i64) (fun x => (Lit.int .i64 x).wf = true)), (1, QE (En.int .i64) (fun x => (Lit.int .i64 x).wf = true))] Tryz.underlying158 (FieldsFit.cons rfl (by kernel_rfl) (rd_int Tryz.underlying2) (FieldsFit.cons rfl (by kernel_rfl) (rd_int Tryz.underlying2) (FieldsFit.nil (by kernel_rfl))))).imp fun w cs h => qe_iso (ok := fun p : Int × Int => (Lit.int .i64 p.1).wf = true ∧ (Lit.int .i64 p.2).wf = true) (fun _ => rfl) (rowq_cons (E := (En.int .i64)) (ok := fun x => (Lit.int .i64 x).wf = true) (fun cs h => rowq_one (E := (En.int .i64)) (ok := fun x => (Lit.int .i64 x).wf = true) h) h)
theorem rd_160 : Reads Tryz.prog 160 (QE enPool okPool) := (reads_struct [(1, QE (En.int .i64) (fun x => (Lit.int .i64 x).wf = true)), (2, QE enCode (fun x => okCode x)), (1, QE (En.int .i64) (fun x => (Lit.int .i64 x).wf = true)), (1, QE (En.int .i64) (fun x => (Lit.int .i64 x).wf = true)), (1, QE (En.int .i64) (fun x => (Lit.int .i64 x).wf = true))] Tryz.underlying160 (FieldsFit.cons rfl (by kernel_rfl) (rd_int Tryz.underlying2) (FieldsFit.cons rfl (by kernel_rfl) rd_158 (FieldsFit.cons rfl (by kernel_rfl) (rd_int Tryz.underlying2) (FieldsFit.cons rfl (by kernel_rfl) (rd_int Tryz.underlying2) (FieldsFit.cons rfl (by kernel_rfl) (rd_int Tryz.underlying2) (FieldsFit.nil (by kernel_rfl)))))))).imp fun w cs h => qe_iso (ok := fun p : Int × Code × Int × Int × Int => (Lit.int .i64 p.1).wf = true ∧ okCode p.2.1 ∧ (Lit.int .i64 p.2.2.1).wf = true ∧ (Lit.int .i64 p.2.2.2.1).wf = true ∧ (Lit.int .i64 p.2.2.2.2).wf = true) (fun _ => rfl) (rowq_cons (E := (En.int .i64)) (ok := fun x => (Lit.int .i64 x).wf = true) (fun cs h => rowq_cons (E := enCode) (ok := fun x => okCode x) (fun cs h => rowq_cons (E := (En.int .i64)) (ok := fun x => (Lit.int .i64 x).wf = true) (fun cs h => rowq_cons (E := (En.int .i64)) (ok := fun x => (Lit.int .i64 x).wf = true) (fun cs h => rowq_one (E := (En.int .i64)) (ok := fun x => (Lit.int .i64 x).wf = true) h) h) h) h) h)
theorem rd_58 : Reads Tryz.prog 58 (QE enMp okMp) := (reads_struct [(1, QE (En.int .i64) (fun x => (Lit.int .i64 x).wf = true)), (1, QE (En.int .i64) (fun x => (Lit.int .i64 x).wf = true)), (2, QE enTree (fun x => okTree x)), (1, QE enRule.list (fun x => (x.length ≤ maxLen ∧ x.length * 32 ≤ 140737488351232 ∧ ∀ y1 ∈ x, okRule y1))), (1, QE enPool.list (fun x => (x.length ≤ maxLen ∧ x.length * 48 ≤ 140737488351232 ∧ ∀ y1 ∈ x, okPool y1))), (1, QE (En.int .i64).list (fun x => (x.length ≤ maxLen ∧ x.length * 8 ≤ 140737488351232 ∧ ∀ y1 ∈ x, (Lit.int .i64 y1).wf = true))), (1, QE (En.int .i64).list (fun x => (x.length ≤ maxLen ∧ x.length * 8 ≤ 140737488351232 ∧ ∀ y1 ∈ x, (Lit.int .i64 y1).wf = true)))] Tryz.underlying58 (FieldsFit.cons rfl (by kernel_rfl) (rd_int Tryz.underlying2) (FieldsFit.cons rfl (by kernel_rfl) (rd_int Tryz.underlying2) (FieldsFit.cons rfl (by kernel_rfl) rd_25 (FieldsFit.cons rfl (by kernel_rfl) (rd_list 32 Tryz.underlying55 (by kernel_rfl) (by kernel_rfl) rd_27) (FieldsFit.cons rfl (by kernel_rfl) (rd_list 48 Tryz.underlying56 (by kernel_rfl) (by kernel_rfl) rd_160) (FieldsFit.cons rfl (by kernel_rfl) (rd_list 8 Tryz.underlying28 (by kernel_rfl) (by kernel_rfl) (rd_int Tryz.underlying2)) (FieldsFit.cons rfl (by kernel_rfl) (rd_list 8 Tryz.underlying28 (by kernel_rfl) (by kernel_rfl) (rd_int Tryz.underlying2)) (FieldsFit.nil (by kernel_rfl)))))))))).imp fun w cs h => qe_iso (ok := fun p : Int × Int × Tree × (List Rule) × (List Pool) × (List Int) × (List Int) => (Lit.int .i64 p.1).wf = true ∧ (Lit.int .i64 p.2.1).wf = true ∧ okTree p.2.2.1 ∧ (p.2.2.2.1.length ≤ maxLen ∧ p.2.2.2.1.length * 32 ≤ 140737488351232 ∧ ∀ y1 ∈ p.2.2.2.1, okRule y1) ∧ (p.2.2.2.2.1.length ≤ maxLen ∧ p.2.2.2.2.1.length * 48 ≤ 140737488351232 ∧ ∀ y1 ∈ p.2.2.2.2.1, okPool y1) ∧ (p.2.2.2.2.2.1.length ≤ maxLen ∧ p.2.2.2.2.2.1.length * 8 ≤ 140737488351232 ∧ ∀ y1 ∈ p.2.2.2.2.2.1, (Lit.int .i64 y1).wf = true) ∧ (p.2.2.2.2.2.2.length ≤ maxLen ∧ p.2.2.2.2.2.2.length * 8 ≤ 140737488351232 ∧ ∀ y1 ∈ p.2.2.2.2.2.2, (Lit.int .i64 y1).wf = true)) (fun _ => rfl) (rowq_cons (E := (En.int .i64)) (ok := fun x => (Lit.int .i64 x).wf = true) (fun cs h => rowq_cons (E := (En.int .i64)) (ok := fun x => (Lit.int .i64 x).wf = true) (fun cs h => rowq_cons (E := enTree) (ok := fun x => okTree x) (fun cs h => rowq_cons (E := enRule.list) (ok := fun x => (x.length ≤ maxLen ∧ x.length * 32 ≤ 140737488351232 ∧ ∀ y1 ∈ x, okRule y1)) (fun cs h => rowq_cons (E := enPool.list) (ok := fun x => (x.length ≤ maxLen ∧ x.length * 48 ≤ 140737488351232 ∧ ∀ y1 ∈ x, okPool y1)) (fun cs h => rowq_cons (E := (En.int .i64).list) (ok := fun x => (x.length ≤ maxLen ∧ x.length * 8 ≤ 140737488351232 ∧ ∀ y1 ∈ x, (Lit.int .i64 y1).wf = true)) (fun cs h => rowq_one (E := (En.int .i64).list) (ok := fun x => (x.length ≤ maxLen ∧ x.length * 8 ≤ 140737488351232 ∧ ∀ y1 ∈ x, (Lit.int .i64 y1).wf = true)) h) h) h) h) h) h) h)
theorem rd_30 : Reads Tryz.prog 30 (QE enPg okPg) := (reads_struct [(1, QE (En.int .i64) (fun x => (Lit.int .i64 x).wf = true)), (1, QE (En.int .i64) (fun x => (Lit.int .i64 x).wf = true))] Tryz.underlying30 (FieldsFit.cons rfl (by kernel_rfl) (rd_int Tryz.underlying2) (FieldsFit.cons rfl (by kernel_rfl) (rd_int Tryz.underlying2) (FieldsFit.nil (by kernel_rfl))))).imp fun w cs h => qe_iso (ok := fun p : Int × Int => (Lit.int .i64 p.1).wf = true ∧ (Lit.int .i64 p.2).wf = true) (fun _ => rfl) (rowq_cons (E := (En.int .i64)) (ok := fun x => (Lit.int .i64 x).wf = true) (fun cs h => rowq_one (E := (En.int .i64)) (ok := fun x => (Lit.int .i64 x).wf = true) h) h)
theorem rd_96 : Reads Tryz.prog 96 (QE enExc okExc) := (reads_struct [(2, QE enPg (fun x => okPg x)), (1, QE (En.int .i64) (fun x => (Lit.int .i64 x).wf = true)), (1, QE (En.int .i64) (fun x => (Lit.int .i64 x).wf = true))] Tryz.underlying96 (FieldsFit.cons rfl (by kernel_rfl) rd_30 (FieldsFit.cons rfl (by kernel_rfl) (rd_int Tryz.underlying2) (FieldsFit.cons rfl (by kernel_rfl) (rd_int Tryz.underlying2) (FieldsFit.nil (by kernel_rfl)))))).imp fun w cs h => qe_iso (ok := fun p : Pg × Int × Int => okPg p.1 ∧ (Lit.int .i64 p.2.1).wf = true ∧ (Lit.int .i64 p.2.2).wf = true) (fun _ => rfl) (rowq_cons (E := enPg) (ok := fun x => okPg x) (fun cs h => rowq_cons (E := (En.int .i64)) (ok := fun x => (Lit.int .i64 x).wf = true) (fun cs h => rowq_one (E := (En.int .i64)) (ok := fun x => (Lit.int .i64 x).wf = true) h) h) h)
@[go_sem] theorem eqok_44 : eqOk Tryz.prog 44 [0, 0] = true := by kernel_rfl
end Go.Ve
