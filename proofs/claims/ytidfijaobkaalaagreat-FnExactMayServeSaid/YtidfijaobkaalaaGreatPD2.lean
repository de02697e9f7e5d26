/- The texts of this claim, part PD 2: the engine that runs the code on values, the data, the contracts. No condition. -/
import Derived.Test.YtidfijaobkaalaaGreatPD1
import Derived.Great.FillDense
import Derived.Laws.OwnMore
namespace Go.Ve
open Go.RowKit
set_option linter.unusedVariables false
set_option linter.unusedSimpArgs false
/-- What an operation does to an environment: when it may, and what follows. -/
def AV.isCell : AV → Bool
  | .undef | .agg _ | .tup _ | .gd _ _ => false
  | _ => true
/-- A value that a variable may hold. -/
def AV.boxable : AV → Bool
  | .agg _ => true
  | x => x.isCell
/-- A cell of plain data. -/
def AV.isD : AV → Bool
  | .int _ _ | .bool _ | .str _ | .nilp | .nils | .nili | .ifc _ _ | .sl _ _ _ | .dptr _ _ => true
  | _ => false
def zOk (P : Program) (t : Nat) : Bool :=
  match (P.info? t).bind (·.zero) with
  | some v => v.cells.toList.all Value.oneCell' && v.cells.size == P.cellsOf t
  | none => false
def zcells (P : Program) (t : Nat) : List AV :=
  match (P.info? t).bind (·.zero) with
  | some v => v.cells.toList.map ofCell
  | none => []
section
variable {P : Program} {C : Ctx} {sz : Nat} {e : Env} {a : Act} {W : World} {D : Nat → Nat → Prop} {β : Nat → Option Nat}
theorem Rep.oneCell {v : Value} {x : AV} (h : Rep W D β v x) (hx : x.isCell = true) : v.oneCell' = true := by
  cases h with
  | undef => cases hx
  | data _ _ h => exact h.oneCell
  | osl _ _ _ _ _ h => rcases h with ⟨_, rfl, _⟩ | ⟨_, _, _, _, _, rfl, _⟩ <;> rfl
  | ptr => rfl
  | map => rfl
  | fn => rfl
  | agg => cases hx
  | tup => cases hx
  | gd => cases hx
theorem Rep.toD {v : Value} {x : AV} (h : Rep W D β v x) (hx : x.isD = true) : RepD W D v x := by
  cases h with
  | data _ _ h => exact h
  | _ => cases hx
theorem cells_leaf {v : Value} (h : v.oneCell' = true) : v.cells = #[v] := by
  cases v <;> first | rfl | cases h
/-- The cells of a variable's value. -/
theorem rep_cells {v : Value} {x : AV} (h : Rep W D β v x) (hb : x.boxable = true) : v.cells.size = x.cells.length ∧ ∀ (j : Nat) (y : AV), x.cells[j]? = some y → ∃ u, v.cells[j]? = some u ∧ u.oneCell' = true ∧ Rep W D β u y := by
  by_cases hx : x.isCell = true
  · have h1 := h.oneCell hx
    have hxc : x.cells = [x] := by cases x <;> first | rfl | cases hx
    rw [cells_leaf h1, hxc]
    refine ⟨rfl, fun j y hy => ?_⟩
    cases j with
    | zero => simp at hy; subst hy; exact ⟨v, rfl, h1, h⟩
    | succ j => simp at hy
  · cases x <;> simp [AV.boxable, AV.isCell] at hb hx
    obtain ⟨vs, rfl, hl, hr⟩ := agg_inv h
    exact ⟨hl, hr⟩
theorem names_cells {x y : AV} {q : Nat} (hy : y ∈ x.cells) (h : Names y q) : Names x q := by
  cases x <;> simp only [AV.cells, List.mem_singleton] at hy
  case agg cs => exact .agg _ y _ hy h
  all_goals (subst hy; exact h)
theorem St.new_box (h : St C sz e a W D β) {t : Nat} {v : Value} {cs : List AV} (hl : v.cells.size = cs.length) (hr : ∀ (j : Nat) (y : AV), cs[j]? = some y → ∃ u, v.cells[j]? = some u ∧ u.oneCell' = true ∧ Rep W D β u y)
    (hn : ∀ y q, y ∈ cs → Names y q → q < e.st.length) :
    St C sz ⟨e.tm, e.st ++ [.box t cs]⟩ a (W.alloc (.cells v.cells t)) D (upd β e.st.length W.heap.size) := by
  refine h.alloc _ _ ?_ (fun t' cs' y q hR hy hq => by cases hR; exact hn y q hy hq)
  have hmv := mv_alloc W (.cells v.cells t) D h.mem.lt β (upd β e.st.length W.heap.size) (· < e.st.length) (fun r hr => by simp [upd]; omega)
  refine ⟨W.heap.size, v.cells, by simp [upd], ha_new W _, hl, fun j y hy => ?_⟩
  obtain ⟨u, h1, h2, h3⟩ := hr j y hy
  exact ⟨u, h1, h2, h3.mv hmv (fun q hq => hn y q (List.mem_of_getElem? hy) hq)⟩
theorem rep_new_ptr (β : Nat → Option Nat) (n g : Nat) : Rep W D (upd β n g) (.pointer (some ⟨g, 0, none⟩)) (.ptr n 0 0 0) := by
  have := Rep.ptr (W := W) (D := D) (β := upd β n g) n 0 0 0 g (by simp [upd])
  simpa using this
theorem zcells_ok {t : Nat} (h : zOk P t = true) : ∃ v, (zeroValue t).run P W = .ok v W ∧ v.cells.size = (zcells P t).length ∧ v.cells.size = P.cellsOf t ∧ (∀ (j : Nat) (y : AV), (zcells P t)[j]? = some y → ∃ u, v.cells[j]? = some u ∧ u.oneCell' = true ∧ y = ofCell u) ∧ ∃ i, P.info? t = some i ∧ i.zero = some v := by
  unfold zOk at h
  split at h <;> try cases h
  rename_i v hv
  cases hi : P.info? t with
  | none => simp [hi] at hv
  | some i =>
    have hz : i.zero = some v := by simpa [hi] using hv
    have hzc : zcells P t = v.cells.toList.map ofCell := by unfold zcells; rw [hv]
    simp only [Bool.and_eq_true, beq_iff_eq] at h
    refine ⟨v, by simp [zeroValue, typeInfo, hi, hz], by rw [hzc]; simp, h.2, fun j y hy => ?_, i, rfl, hz⟩
    rw [hzc, List.getElem?_map] at hy
    cases hu : v.cells.toList[j]? with
    | none => simp [hu] at hy
    | some u =>
      simp only [hu, Option.map_some, Option.some.injEq] at hy
      exact ⟨u, by simpa using hu, List.all_eq_true.1 h.1 u (List.mem_of_getElem? hu), hy.symm⟩
theorem setCells_box {cs vals : List AV} {cur : Array Value} {vv : List Value} {j : Nat} (hl : cur.size = cs.length) (hv : vv.length = vals.length) (hj : j + vals.length ≤ cs.length)
    (hc : ∀ (k : Nat) (y : AV), cs[k]? = some y → ∃ u, cur[k]? = some u ∧ u.oneCell' = true ∧ Rep W D β u y) (hw : ∀ (k : Nat) (y : AV), vals[k]? = some y → ∃ u, vv[k]? = some u ∧ u.oneCell' = true ∧ Rep W D β u y) :
    ∀ (k : Nat) (y : AV), (cs.take j ++ vals ++ cs.drop (j + vals.length))[k]? = some y → ∃ u, (cur.toList.take j ++ vv ++ cur.toList.drop (j + vv.length)).toArray[k]? = some u ∧ u.oneCell' = true ∧ Rep W D β u y := by
  intro k y hy
  simp only [List.getElem?_toArray]
  have hlc : cur.toList.length = cs.length := by simpa using hl
  by_cases h1 : k < j
  · rw [List.append_assoc, List.getElem?_append_left (by rw [List.length_take]; omega), List.getElem?_take, if_pos h1] at hy
    rw [List.append_assoc, List.getElem?_append_left (by rw [List.length_take]; omega), List.getElem?_take, if_pos h1]
    obtain ⟨u, k1, k2⟩ := hc k y hy
    exact ⟨u, by simpa using k1, k2⟩
  · by_cases h2 : k < j + vals.length
    · rw [List.append_assoc, List.getElem?_append_right (by rw [List.length_take]; omega), List.length_take, Nat.min_eq_left (by omega), List.getElem?_append_left (by omega)] at hy
      rw [List.append_assoc, List.getElem?_append_right (by rw [List.length_take]; omega), List.length_take, Nat.min_eq_left (by omega), List.getElem?_append_left (by omega)]
      exact hw _ y hy
    · rw [List.getElem?_append_right (by rw [List.length_append, List.length_take]; omega), List.length_append, List.length_take, Nat.min_eq_left (by omega), List.getElem?_drop] at hy
      rw [List.getElem?_append_right (by rw [List.length_append, List.length_take]; omega), List.length_append, List.length_take, Nat.min_eq_left (by omega), List.getElem?_drop]
      have e1 : j + vals.length + (k - (j + vals.length)) = k := by omega
      have e2 : j + vv.length + (k - (j + vv.length)) = k := by omega
      rw [e1] at hy
      rw [e2]
      obtain ⟨u, k1, k2⟩ := hc k y hy
      exact ⟨u, by simpa using k1, k2⟩
/-- Storing the cells of v at cell off of block g. -/
theorem run_storeVar {t g off tt : Nat} {v : Value} {cur : Array Value} (hc : W.heap[g]? = some (.cells cur tt (0, 0))) (hi : (P.info? t).isSome = true) (hs : v.cells.size = P.cellsOf t) (hf : off + v.cells.size ≤ cur.size) (h1 : ∀ u ∈ v.cells.toList, u.oneCell' = true) :
    (Instr.storeAt t (.pointer (some ⟨g, off, none⟩)) v).run P W = .ok () (W.setRow g (cur.toList.take off ++ v.cells.toList ++ cur.toList.drop (off + v.cells.toList.length)).toArray) := by
  have hst := run_storeCells_at P g off tt v.cells.toList 0 cur W hc (by simpa using hf) h1
  simp only [Nat.add_zero] at hst
  simp [Instr.storeAt, Instr.sureAddr, storeVar, run_sizeOf' hi, hs, hst]
/-- A box is written: cells from j on. -/
theorem St.store_box (h : St C sz e a W D β) {o : Operand} {r t j tt : Nat} {cs : List AV} {v : Value} {x : AV} (hr : e.st[r]? = some (.box tt cs)) (hi : (P.info? t).isSome = true) (hs : x.cells.length = P.cellsOf t) (hj : j + x.cells.length ≤ cs.length) (hx : Rep W D β v x) (hb : x.boxable = true) (hn : ∀ q, Names x q → q < e.st.length) (hp : Rep W D β (a.eval o) (.ptr r 0 0 j)) :
    ∃ W', (Instr.storeAt t (a.eval o) v).run P W = .ok () W' ∧ St C sz ⟨e.tm, e.st.set r (.box tt (cs.take j ++ x.cells ++ cs.drop (j + x.cells.length)))⟩ a W' D β := by
  obtain ⟨g, cur, h1, h2, h3, h4⟩ := h.mem.store.root r _ hr
  obtain ⟨k1, k2⟩ := rep_cells hx hb
  have hpe : a.eval o = .pointer (some ⟨g, j, none⟩) := by
    generalize a.eval o = p at hp
    cases hp with
    | data _ _ hd => cases hd
    | ptr _ _ _ _ g' hg => rw [h1] at hg; injection hg with hg; subst hg; simp
  have one : ∀ u ∈ v.cells.toList, u.oneCell' = true := fun u hu => by
    obtain ⟨i, hi⟩ := List.mem_iff_getElem?.1 hu
    have hil : i < x.cells.length := by
      have := (List.getElem?_eq_some_iff.1 hi).1
      simp at this; omega
    obtain ⟨u', u1, u2, _⟩ := k2 i _ (List.getElem?_eq_getElem hil)
    simp only [Array.getElem?_toList] at hi
    rw [hi] at u1; injection u1 with u1; subst u1; exact u2
  have hrun := run_storeVar (P := P) (off := j) h2 hi (k1.trans hs) (by omega) one
  refine ⟨_, by rw [hpe]; exact hrun, ?_⟩
  have hlen : v.cells.toList.length = x.cells.length := by simpa using k1
  have hsz : ((cur.toList.take j ++ v.cells.toList ++ cur.toList.drop (j + v.cells.toList.length)).toArray).size = cur.size := by
    simp; omega
  refine h.write hr (by simp) h1 h2 hsz ?_ (fun t' cs' y q hR hy hq => ?_)
  · have hmv : Mv W (W.setRow g (cur.toList.take j ++ v.cells.toList ++ cur.toList.drop (j + v.cells.toList.length)).toArray) D D β β (fun _ => True) := by
      refine ⟨fun ρ b hb => ⟨setRow_other W g b _ (fun e0 => h.mem.store.far r g ρ ⟨_, hr, by simp⟩ h1 (e0 ▸ hb)), hb⟩, fun b t' c fr hb => ?_, fun _ _ => rfl⟩
      by_cases hbg : b = g
      · subst hbg
        rw [h2] at hb
        injection hb with hb
        injection hb with e1 e2 e3
        subst e1 e2 e3
        exact ⟨_, setRow_heap W b cur _ tt (0, 0) h2, hsz⟩
      · exact ⟨c, (setRow_other W g b _ hbg).trans hb, rfl⟩
    refine ⟨g, _, h1, setRow_heap W g cur _ tt (0, 0) h2, by simp; omega, fun k y hy => ?_⟩
    obtain ⟨u, u1, u2, u3⟩ := setCells_box (W := W) (D := D) (β := β) h3 hlen hj h4 (fun k y hy => by obtain ⟨u, u1, u2⟩ := k2 k y hy; exact ⟨u, by simpa using u1, u2⟩) k y hy
    exact ⟨u, u1, u2, u3.mv hmv (fun _ _ => trivial)⟩
  · cases hR
    simp only [List.mem_append] at hy
    rcases hy with (hy | hy) | hy
    · exact h.bx r tt cs y q hr (List.mem_of_mem_take hy) hq
    · exact hn q (names_cells hy hq)
    · exact h.bx r tt cs y q hr (List.mem_of_mem_drop hy) hq
end
end Go.Ve
namespace Go.Ve
open Go.RowKit
set_option linter.unusedVariables false
set_option linter.unusedSimpArgs false
structure EmbR where
  c : Prop
  v : AV
  rs : List Nat
def emb0 (st : List Root) (m : Nat) : AV → EmbR
  | .osl r w off len => match st[r]? with
    | some (.row t w' xs) => ⟨w = w' ∧ off + len ≤ xs.length, .sl m w ((xs.drop off).take len), [r]⟩
    | _ => ⟨False, .undef, []⟩
  | x => ⟨x.isD = true, x, []⟩
def emb (st : List Root) (m : Nat) : AV → EmbR
  | .agg cs => ⟨∀ c ∈ cs, (emb0 st m c).c, .agg (cs.map fun c => (emb0 st m c).v), cs.flatMap fun c => (emb0 st m c).rs⟩
  | x => emb0 st m x
def gones (st : List Root) (rs : List Nat) : List Root := rs.foldl (fun st r => st.set r .gone) st
section
variable {P : Program} {C : Ctx} {sz : Nat} {e : Env} {a : Act} {W : World} {D : Nat → Nat → Prop} {β : Nat → Option Nat}
theorem emb0_rows {st : List Root} {m : Nat} {x : AV} (hc : (emb0 st m x).c) : ∀ r ∈ (emb0 st m x).rs, ∃ t w xs, st[r]? = some (.row t w xs) := by
  unfold emb0 at hc ⊢
  split
  · rename_i r w off len
    cases hr : st[r]? with
    | none => simp [hr] at hc
    | some R => cases R <;> simp [hr] at hc ⊢
  · intro r hr; cases hr
theorem emb_rows {st : List Root} {m : Nat} {x : AV} (hc : (emb st m x).c) : ∀ r ∈ (emb st m x).rs, ∃ t w xs, st[r]? = some (.row t w xs) := by
  cases x
  case agg cs =>
    intro r hr
    simp only [emb, List.mem_flatMap] at hr
    obtain ⟨c, h1, h2⟩ := hr
    exact emb0_rows (hc c h1) r h2
  all_goals exact emb0_rows hc
theorem gones_length (rs : List Nat) : ∀ st : List Root, (gones st rs).length = st.length := by
  induction rs with
  | nil => intro st; rfl
  | cons r rs ih => intro st; simp only [gones, List.foldl_cons] at ih ⊢; rw [ih]; simp
/-- All of them are frozen. -/
theorem St.freezes {m : Nat} (hm : C.n ≤ m) (rs : List Nat) : ∀ {e : Env} {D : Nat → Nat → Prop} (st0 : List Root), St C sz e a W D β → (∀ r ∈ rs, ∃ t w xs, st0[r]? = some (.row t w xs)) → (∀ r ∈ rs, e.st[r]? = st0[r]? ∨ ∀ g, β r = some g → D m g) →
    ∃ D', (∀ ρ b, D ρ b → D' ρ b) ∧ (∀ r ∈ rs, ∀ g, β r = some g → D' m g) ∧ St C sz ⟨e.tm, gones e.st rs⟩ a W D' β := by
  induction rs with
  | nil => intro e D st0 h _ _; exact ⟨D, (fun _ _ h => h), (fun r hr => by cases hr), h⟩
  | cons r rs ih =>
    intro e D st0 h hrow hst
    have step : ∃ D1, (∀ ρ b, D ρ b → D1 ρ b) ∧ (∀ g, β r = some g → D1 m g) ∧ St C sz ⟨e.tm, e.st.set r .gone⟩ a W D1 β := by
      rcases hst r (List.mem_cons_self ..) with h1 | h1
      · obtain ⟨t, w, xs, h2⟩ := hrow r (List.mem_cons_self ..)
        obtain ⟨D1, k1, k2, _, k4⟩ := h.freeze (h1.trans h2) hm
        exact ⟨D1, k1, k2, k4⟩
      · exact ⟨D, fun _ _ h => h, h1, h.gone r⟩
    obtain ⟨D1, k1, k2, k3⟩ := step
    obtain ⟨D2, j1, j2, j3⟩ := ih (e := ⟨e.tm, e.st.set r .gone⟩) st0 k3 (fun q hq => hrow q (List.mem_cons_of_mem _ hq)) (fun q hq => by
      by_cases hqr : r = q
      · subst hqr; exact .inr k2
      · simp only [List.getElem?_set_ne hqr]
        exact (hst q (List.mem_cons_of_mem _ hq)).imp id (fun h g hg => k1 _ _ (h g hg)))
    exact ⟨D2, fun ρ b hb => j1 _ _ (k1 _ _ hb), fun q hq => by
      rcases List.mem_cons.1 hq with rfl | hq
      · exact fun g hg => j1 _ _ (k2 g hg)
      · exact j2 q hq, j3⟩
theorem emb0_ok {st : List Root} {m : Nat} {D' : Nat → Nat → Prop} {v : Value} {x : AV} (hs : ∀ r R, st[r]? = some R → RootOk W D β r R) (hD : ∀ ρ b, D ρ b → D' ρ b) (hr : ∀ r ∈ (emb0 st m x).rs, ∀ g, β r = some g → D' m g) (h : Rep W D β v x) (hc : (emb0 st m x).c) : RepD W D' v (emb0 st m x).v := by
  have hmv : Mv W W D D' β β (fun _ => True) := ⟨fun ρ b hb => ⟨rfl, hD ρ b hb⟩, Keeps.refl W, fun _ _ => rfl⟩
  unfold emb0 at hc hr ⊢
  split at hc
  · rename_i r w off len
    cases hR : st[r]? with
    | none => simp [hR] at hc
    | some R =>
      cases R <;> simp [hR] at hc hr ⊢
      rename_i t w' xs
      obtain ⟨rfl, hl⟩ := hc
      exact osl_data (t := t) ((hs r _ hR).mv hmv rfl (fun _ _ => rfl) (fun _ _ _ _ _ _ _ => trivial)) hr (h.mv hmv (fun _ _ => trivial)) hl
  · exact (h.toD hc).mono (fun ρ b hb => ⟨rfl, hD ρ b hb⟩)
/-- The cells of an embedded value. -/
theorem emb_ok {st : List Root} {m : Nat} {D' : Nat → Nat → Prop} {v : Value} {x : AV} (hs : ∀ r R, st[r]? = some R → RootOk W D β r R) (hD : ∀ ρ b, D ρ b → D' ρ b) (hr : ∀ r ∈ (emb st m x).rs, ∀ g, β r = some g → D' m g) (h : Rep W D β v x) (hc : (emb st m x).c) :
    v.cells.size = (emb st m x).v.cells.length ∧ ∀ (j : Nat) (y : AV), (emb st m x).v.cells[j]? = some y → ∃ u, v.cells[j]? = some u ∧ RepD W D' u y := by
  have leaf : ∀ (hr : ∀ r ∈ (emb0 st m x).rs, ∀ g, β r = some g → D' m g) (hc : (emb0 st m x).c), v.cells.size = (emb0 st m x).v.cells.length ∧ ∀ (j : Nat) (y : AV), (emb0 st m x).v.cells[j]? = some y → ∃ u, v.cells[j]? = some u ∧ RepD W D' u y := by
    intro hr hc
    have hd := emb0_ok hs hD hr h hc
    have h1 := hd.oneCell
    have hcell : (emb0 st m x).v.cells = [(emb0 st m x).v] := by
      generalize (emb0 st m x).v = y at hd
      cases hd <;> rfl
    rw [hcell, cells_leaf h1]
    refine ⟨rfl, fun j y hy => ?_⟩
    cases j with
    | zero => simp at hy; subst hy; exact ⟨v, rfl, hd⟩
    | succ j => simp at hy
  cases x
  case agg cs =>
    simp only [emb] at hc hr ⊢
    obtain ⟨vs, rfl, hl, hv⟩ := agg_inv h
    refine ⟨by simp only [AV.cells, List.length_map]; exact hl, fun j y hy => ?_⟩
    simp only [AV.cells, List.getElem?_map, Option.map_eq_some_iff] at hy
    obtain ⟨c, hc1, rfl⟩ := hy
    obtain ⟨u, u1, u2, u3⟩ := hv j c hc1
    exact ⟨u, u1, emb0_ok hs hD (fun r hr0 => hr r (List.mem_flatMap.2 ⟨c, List.mem_of_getElem? hc1, hr0⟩)) u3 (hc c (List.mem_of_getElem? hc1))⟩
  all_goals exact leaf hr hc
/-- A block whose first cells are the elements xs. -/
theorem St.new_row (h : St C sz e a W D β) {t w cap : Nat} {xs : List AV} {cur : Array Value} (hsz : cur.size = cap * w) (hcap : cap ≤ maxLen) (hl : xs.length ≤ cap)
    (hx : ∀ (i : Nat) (x : AV), xs[i]? = some x → x.cells.length = w ∧ ∀ (j : Nat) (y : AV), x.cells[j]? = some y → ∃ u, cur[i * w + j]? = some u ∧ RepD W D u y) :
    St C sz ⟨e.tm, e.st ++ [.row t w xs]⟩ a (W.alloc (.cells cur t)) D (upd β e.st.length W.heap.size) ∧
      Rep (W.alloc (.cells cur t)) D (upd β e.st.length W.heap.size) (.slice (some ⟨W.heap.size, 0, none⟩) xs.length cap) (.osl e.st.length w 0 xs.length) := by
  constructor
  · refine h.alloc _ _ (.inr ⟨W.heap.size, cur, by simp [upd], ha_new W _, fun i x hi => ⟨(hx i x hi).1, fun j y hy => ?_⟩⟩) (fun _ _ _ _ hR _ _ => by cases hR)
    obtain ⟨u, u1, u2⟩ := (hx i x hi).2 j y hy
    exact ⟨u, u1, u2.mono (fun ρ b hb => ⟨ha_old W _ b (h.mem.lt ρ b hb), hb⟩)⟩
  · refine .osl _ _ _ _ _ (.inr ⟨W.heap.size, cap, t, cur, by simp [upd], by simp, ha_new W _, by simpa using hsz, by omega, hl⟩)
/-- A row that is nil. -/
theorem St.virt (h : St C sz e a W D β) (t w : Nat) : ∃ β', (∀ q, q < e.st.length → β' q = β q) ∧ St C sz ⟨e.tm, e.st ++ [.row t w []]⟩ a W D β' ∧ Rep W D β' (.slice none 0 0) (.osl e.st.length w 0 0) := by
  let β' : Nat → Option Nat := fun q => if q = e.st.length then none else β q
  have same : ∀ q, q < e.st.length → β' q = β q := fun q hq => by simp only [β']; rw [if_neg (by omega)]
  have newb : β' e.st.length = none := by simp [β']
  have hmv : Mv W W D D β β' (· < e.st.length) := ⟨fun ρ b hb => ⟨rfl, hb⟩, Keeps.refl W, same⟩
  have old : ∀ q g, Live (e.st ++ [.row t w []]) q → β' q = some g → Live e.st q ∧ β q = some g := by
    intro q g hq hg
    rcases live_app hq with rfl | hq
    · rw [newb] at hg; cases hg
    · exact ⟨hq, by rw [← same q (live_lt hq)]; exact hg⟩
  refine ⟨β', same, ⟨⟨⟨fun q R hq => ?_, fun q q' g h1 h2 h3 h4 => ?_, fun q g ρ h1 h2 => ?_⟩, h.mem.os, h.mem.tape, h.mem.output, h.mem.size, h.mem.frame, h.mem.keeps, h.mem.dup, h.mem.dfix, h.mem.dnew, h.mem.thaw, fun q g h1 h2 => ?_, h.mem.lt, h.mem.sep, fun r hr => by have := h.mem.kst; rw [same r (by omega)]; exact h.mem.hand r hr, by have := h.mem.kst; simp; omega⟩, fun i => (h.tm i).mv hmv (fun q hq => h.nm i q hq), fun i q hq => ?_, fun q t' cs y p hq hy hp => ?_, h.dd, h.sz⟩, .osl _ _ _ _ _ (.inl ⟨newb, rfl, rfl, rfl⟩)⟩
  · by_cases hql : q < e.st.length
    · rw [List.getElem?_append_left hql] at hq
      exact (h.mem.store.root q R hq).mv hmv (same q hql) (fun _ _ => rfl) (fun t cs y p hR hy hp => h.bx q t cs y p (hR ▸ hq) hy hp)
    · have hl := (List.getElem?_eq_some_iff.1 hq).1
      simp at hl
      obtain rfl : q = e.st.length := by omega
      simp at hq
      subst hq
      exact .inl ⟨newb, rfl⟩
  · obtain ⟨k1, k2⟩ := old q g h1 h3
    obtain ⟨k3, k4⟩ := old q' g h2 h4
    exact h.mem.store.inj q q' g k1 k3 k2 k4
  · obtain ⟨k1, k2⟩ := old q g h1 h2
    exact h.mem.store.far q g ρ k1 k2
  · obtain ⟨k1, k2⟩ := old q g h1 h2
    exact h.mem.own q g k1 k2
  · have := h.nm i q hq
    simp; omega
  · simp
    by_cases hql : q < e.st.length
    · rw [List.getElem?_append_left hql] at hq
      have := h.bx q t' cs y p hq hy hp
      omega
    · have hl := (List.getElem?_eq_some_iff.1 hq).1
      simp at hl
      obtain rfl : q = e.st.length := by omega
      simp at hq
theorem fill_zip (w : Nat) (vs : List Value) (parts : List (Nat × Value)) (hp : parts = (vs.zipIdx 0).map fun x => (x.2, x.1)) (hw : 0 < w) (cells : Array Value) (h1 : ∀ v ∈ vs, v.cells.size = w) (hn : vs.length * w = cells.size) :
    Instr.fill (fun i => some (i * w, w)) cells parts = some (vs.flatMap fun v => v.cells.toList).toArray := by
  rw [hp]; exact Great.fill_whole hw vs cells h1 hn
theorem flat_at {w : Nat} {vs : List Value} (h1 : ∀ v ∈ vs, v.cells.size = w) {i j : Nat} (hj : j < w) {v : Value} (hv : vs[i]? = some v) : (vs.flatMap fun v => v.cells.toList).toArray[i * w + j]? = v.cells[j]? := by
  rw [List.getElem?_toArray, Great.flat_get (by omega) vs h1]
  have e1 : (i * w + j) / w = i := by rw [Nat.mul_comm, Nat.mul_add_div (by omega)]; rw [Nat.div_eq_of_lt hj]; omega
  have e2 : (i * w + j) % w = j := by rw [Nat.mul_comm, Nat.mul_add_mod]; exact Nat.mod_eq_of_lt hj
  rw [e1, e2, hv]; rfl
end
end Go.Ve
namespace Go.Ve
open Go.RowKit
set_option linter.unusedVariables false
set_option linter.unusedSimpArgs false
/-- The cells of a struct literal. -/
def avFill (P : Program) (t : Nat) : List AV → List (Nat × AV) → Prop × List AV
  | cells, [] => (True, cells)
  | cells, (i, x) :: rest => match fld P t i with
    | some (off, ft) =>
      (P.cellsOf ft = x.cells.length ∧ (P.info? ft).isSome = true ∧ x.boxable = true ∧ off + x.cells.length ≤ cells.length ∧ (avFill P t (cells.take off ++ x.cells ++ cells.drop (off + x.cells.length)) rest).1,
        (avFill P t (cells.take off ++ x.cells ++ cells.drop (off + x.cells.length)) rest).2)
    | none => (False, [])
section
variable {P : Program} {C : Ctx} {sz : Nat} {e : Env} {a : Act} {W : World} {D : Nat → Nat → Prop} {β : Nat → Option Nat}
theorem foldl_block (off : Nat) (vs cells : Array Value) (hl : off + vs.size ≤ cells.size) :
    vs.zipIdx.foldl (fun cs (c, j) => cs.setIfInBounds (off + j) c) cells = (cells.toList.take off ++ vs.toList ++ cells.toList.drop (off + vs.toList.length)).toArray := by
  rw [← Array.foldl_toList, Array.toList_zipIdx]
  obtain ⟨h1, h2⟩ := Great.foldl_set off vs.toList 0 cells
  apply Array.ext_getElem?
  intro k
  rw [h2 k]
  simp only [Nat.add_zero, Array.length_toList, List.getElem?_toArray]
  by_cases hk1 : k < off
  · rw [if_neg (by omega), List.append_assoc, List.getElem?_append_left (by rw [List.length_take]; simp; omega), List.getElem?_take, if_pos hk1]
    simp
  · by_cases hk2 : k < off + vs.size
    · rw [if_pos ⟨by omega, hk2, by omega⟩, List.append_assoc, List.getElem?_append_right (by rw [List.length_take]; omega), List.length_take]
      simp only [Array.length_toList, Nat.min_eq_left (by omega : off ≤ cells.size)]
      rw [List.getElem?_append_left (by simp; omega)]
    · rw [if_neg (by omega), List.getElem?_append_right (by rw [List.length_append, List.length_take]; simp; omega), List.length_append, List.length_take]
      simp only [Array.length_toList, Nat.min_eq_left (by omega : off ≤ cells.size)]
      rw [List.getElem?_drop]
      have : off + vs.size + (k - (off + vs.size)) = k := by omega
      rw [this]; simp
theorem fill_ok {t : Nat} {fs : Array Field} {places : Array (Nat × Nat)} (hu : P.underlying t = some (.struct fs)) (hp : ∀ (i : Nat) (f : Field), fs[i]? = some f → places[i]? = some (f.offset, P.cellsOf f.type)) : ∀ (pv : List (Nat × Value)) (px : List (Nat × AV)) (cur : Array Value) (cells : List AV),
    pv.length = px.length → (∀ (i k : Nat) (x : AV), px[i]? = some (k, x) → ∃ v, pv[i]? = some (k, v) ∧ Rep W D β v x) → cur.size = cells.length → (∀ (k : Nat) (y : AV), cells[k]? = some y → ∃ u, cur[k]? = some u ∧ u.oneCell' = true ∧ Rep W D β u y) →
    (avFill P t cells px).1 → ∃ r : Array Value, Instr.fill (places[·]?) cur pv = some r ∧ r.size = (avFill P t cells px).2.length ∧ ∀ (k : Nat) (y : AV), (avFill P t cells px).2[k]? = some y → ∃ u, r[k]? = some u ∧ u.oneCell' = true ∧ Rep W D β u y
  | [], [], cur, cells, _, _, hs, hc, _ => ⟨cur, rfl, hs, hc⟩
  | [], _ :: _, _, _, hl, _, _, _, _ => by simp at hl
  | _ :: _, [], _, _, hl, _, _, _, _ => by simp at hl
  | (k, v) :: pv, (k', x) :: px, cur, cells, hl, hr, hs, hc, h => by
    obtain ⟨v', h1, hx⟩ := hr 0 k' x rfl
    simp only [List.getElem?_cons_zero, Option.some.injEq, Prod.mk.injEq] at h1
    obtain ⟨rfl, rfl⟩ := h1
    simp only [avFill] at h ⊢
    cases hf : fld P t k with
    | none => simp [hf] at h
    | some p =>
      obtain ⟨off, ft⟩ := p
      simp only [hf] at h ⊢
      obtain ⟨k1, k2, k3, k4, k5⟩ := h
      unfold fld at hf
      rw [hu] at hf
      simp only [Option.map_eq_some_iff, Prod.mk.injEq] at hf
      obtain ⟨f, hf1, rfl, rfl⟩ := hf
      obtain ⟨c1, c2⟩ := rep_cells hx k3
      have hfb := foldl_block f.offset v.cells cur (by omega)
      have hlen : v.cells.toList.length = x.cells.length := by simpa using c1
      have ih := fill_ok hu hp pv px (cur.toList.take f.offset ++ v.cells.toList ++ cur.toList.drop (f.offset + v.cells.toList.length)).toArray (cells.take f.offset ++ x.cells ++ cells.drop (f.offset + x.cells.length)) (by simpa using hl) (fun i k x hi => by simpa using hr (i + 1) k x (by simpa using hi)) (by simp; omega)
        (setCells_box hs hlen k4 hc (fun k y hy => by obtain ⟨u, u1, u2⟩ := c2 k y hy; exact ⟨u, by simpa using u1, u2⟩)) k5
      obtain ⟨r, r1, r2⟩ := ih
      refine ⟨r, ?_, r2⟩
      simp only [Instr.fill, hp k f hf1]
      have hb : (decide (v.cells.size ≠ P.cellsOf f.type) || decide (f.offset + v.cells.size > cur.size)) = false := by simp; omega
      simp only [hb, Bool.false_eq_true, if_false]
      rw [hfb]
      exact r1
def fldsOk (P : Program) (t : Nat) : Bool := match tyOf P t with
  | .agg => (P.fieldsOf t).toList.all fun f => (P.info? f.type).isSome
  | _ => false
def vBuild (P : Program) (t : Nat) (parts : List (Nat × AV)) : OpR :=
  ⟨fldsOk P t = true ∧ zOk P t = true ∧ (avFill P t (zcells P t) parts).1, .agg (avFill P t (zcells P t) parts).2⟩
theorem mapM_places : ∀ fs : List Field, (∀ f ∈ fs, (P.info? f.type).isSome = true) → fs.mapM (fun f => (P.info? f.type).map fun i => (f.offset, i.size)) = some (fs.map fun f => (f.offset, P.cellsOf f.type))
  | [], _ => rfl
  | f :: fs, h => by
    obtain ⟨i, hi⟩ := Option.isSome_iff_exists.1 (h f (List.mem_cons_self ..))
    have ih := mapM_places fs (fun g hg => h g (List.mem_cons_of_mem _ hg))
    simp [List.mapM_cons, hi, ih, Program.cellsOf]
theorem vBuild_ok {t : Nat} {pv : Array (Nat × Value)} {px : List (Nat × AV)} (hl : pv.toList.length = px.length) (hr : ∀ (i k : Nat) (x : AV), px[i]? = some (k, x) → ∃ v, pv.toList[i]? = some (k, v) ∧ Rep W D β v x) (hc : (vBuild P t px).c) :
    ∃ u, (Instr.build t pv).run P W = .ok u W ∧ Rep W D β u (vBuild P t px).v := by
  obtain ⟨h1, h2, h3⟩ := hc
  unfold fldsOk at h1
  split at h1 <;> try cases h1
  rename_i ht
  obtain ⟨fs, hu⟩ := tyOf_agg ht
  have hfo : P.fieldsOf t = fs := by simp [Program.fieldsOf, hu]
  rw [hfo] at h1
  have hall := List.all_eq_true.1 h1
  obtain ⟨z, _, z2, _, z3, i, z4, z5⟩ := zcells_ok (W := W) h2
  have hm := mapM_places (P := P) fs.toList hall
  obtain ⟨r, r1, r2, r3⟩ := fill_ok (W := W) (D := D) (β := β) (places := (fs.toList.map fun f => (f.offset, P.cellsOf f.type)).toArray) hu (fun i f hf => by simp [hf]) pv.toList px z.cells (zcells P t) hl hr z2 (fun k y hy => by obtain ⟨u, u1, u2, rfl⟩ := z3 k y hy; exact ⟨u, u1, u2, rep_ofCell ..⟩) h3
  have hb : P.built t pv.toList = some r := by
    unfold Program.built
    simp only [z4, hu, z5, hm]
    exact r1
  refine ⟨.agg r, run_build W t pv r hb, .agg _ _ (fun i => r.getD i undef) r2 (fun i y hy => ?_) (fun i y hy => ?_) (fun i y hy => ?_)⟩
  all_goals obtain ⟨u, u1, u2, u3⟩ := r3 i y hy
  · simp [u1]
  · simp [u1, u2]
  · simp [u1, u3]
theorem avFill_names {t : Nat} : ∀ (px : List (Nat × AV)) (cells : List AV) {y : AV} {q : Nat}, y ∈ (avFill P t cells px).2 → Names y q → (y ∈ cells ∨ ∃ k x, (k, x) ∈ px ∧ Names x q)
  | [], cells, y, q, hy, hq => .inl hy
  | (k, x) :: px, cells, y, q, hy, hq => by
    simp only [avFill] at hy
    cases hf : fld P t k with
    | none => simp [hf] at hy
    | some p =>
      simp only [hf] at hy
      rcases avFill_names px _ hy hq with h1 | ⟨k', x', h1, h2⟩
      · simp only [List.mem_append] at h1
        rcases h1 with (h1 | h1) | h1
        · exact .inl (List.mem_of_mem_take h1)
        · exact .inr ⟨k, x, List.mem_cons_self .., names_cells h1 hq⟩
        · exact .inl (List.mem_of_mem_drop h1)
      · exact .inr ⟨k', x', List.mem_cons_of_mem _ h1, h2⟩
theorem vBuild_names {t : Nat} {px : List (Nat × AV)} {q : Nat} (hc : (vBuild P t px).c) (h : Names (vBuild P t px).v q) : ∃ k x, (k, x) ∈ px ∧ Names x q := by
  cases h with
  | agg _ y _ hy hq =>
    rcases avFill_names px _ hy hq with h1 | h1
    · unfold zcells at h1
      split at h1
      · obtain ⟨u, _, rfl⟩ := List.mem_map.1 h1
        exact (names_ofCell hq).elim
      · cases h1
    · exact h1
theorem flat_len {w : Nat} : ∀ {vs : List Value}, (∀ v ∈ vs, v.cells.size = w) → (vs.flatMap fun v => v.cells.toList).length = vs.length * w
  | [], _ => by simp
  | v :: vs, h => by
    rw [List.flatMap_cons, List.length_append, flat_len (fun u hu => h u (List.mem_cons_of_mem _ hu)), List.length_cons, Nat.add_mul, Nat.one_mul, Array.length_toList, h v (List.mem_cons_self ..), Nat.add_comm]
theorem St.build_slice (h : St C sz e a W D β) {m t et : Nat} {len : Nat} {pv : List Value} {args : List AV} {parts : Array (Nat × Value)} (hm : C.n ≤ m) (ht : tyOf P t = .sl et) (hz : zOk P et = true) (hw : 0 < P.cellsOf et) (hsm : len * P.cellsOf et ≤ 16777216)
    (hlen : pv.length = len) (hal : args.length = len) (hpv : parts.toList = (pv.zipIdx 0).map fun x => (x.2, x.1)) (hrep : ∀ (i : Nat) (x : AV), args[i]? = some x → ∃ v, pv[i]? = some v ∧ Rep W D β v x)
    (hc : ∀ x ∈ args, (emb e.st m x).c ∧ (emb e.st m x).v.cells.length = P.cellsOf et) :
    ∃ u W' D' β', (Instr.buildSlice t len parts).run P W = .ok u W' ∧ St C sz ⟨e.tm, gones e.st (args.flatMap fun x => (emb e.st m x).rs) ++ [.row et (P.cellsOf et) (args.map fun x => (emb e.st m x).v)]⟩ a W' D' β' ∧ Rep W' D' β' u (.osl e.st.length (P.cellsOf et) 0 len) := by
  have hu := tyOf_sl ht
  obtain ⟨D', d1, d2, d3⟩ := St.freezes hm (args.flatMap fun x => (emb e.st m x).rs) e.st h (fun r hr => by
    obtain ⟨x, hx, hr⟩ := List.mem_flatMap.1 hr
    exact emb_rows (hc x hx).1 r hr) (fun r _ => .inl rfl)
  have each : ∀ (i : Nat) (x : AV), args[i]? = some x → ∃ v, pv[i]? = some v ∧ v.cells.size = (emb e.st m x).v.cells.length ∧ ∀ (j : Nat) (y : AV), (emb e.st m x).v.cells[j]? = some y → ∃ u, v.cells[j]? = some u ∧ RepD W D' u y := by
    intro i x hx
    obtain ⟨v, v1, v2⟩ := hrep i x hx
    have hxm := List.mem_of_getElem? hx
    obtain ⟨k1, k2⟩ := emb_ok h.mem.store.root d1 (fun r hr => d2 r (List.mem_flatMap.2 ⟨x, hxm, hr⟩)) v2 (hc x hxm).1
    exact ⟨v, v1, k1, k2⟩
  have hvs : ∀ v ∈ pv, v.cells.size = P.cellsOf et := by
    intro v hv
    obtain ⟨i, hi⟩ := List.mem_iff_getElem?.1 hv
    have hil : i < args.length := by have := (List.getElem?_eq_some_iff.1 hi).1; omega
    obtain ⟨v', v1, v2, _⟩ := each i _ (List.getElem?_eq_getElem hil)
    rw [hi] at v1; injection v1 with v1; subst v1
    rw [v2, (hc _ (List.getElem_mem hil)).2]
  obtain ⟨z, z1, z2, z3, _, i, z4, z5⟩ := zcells_ok (W := W) hz
  have hsz : P.cellsOf et = i.size := by simp [Program.cellsOf, z4]
  have hfill : Instr.fill (fun k => some (k * P.cellsOf et, P.cellsOf et)) ((Array.range (len * P.cellsOf et)).map (z.cells[· % z.cells.size]!)) parts.toList = some (pv.flatMap fun v => v.cells.toList).toArray :=
    fill_zip _ pv _ hpv hw _ hvs (by simp [hlen])
  by_cases h0 : len = 0
  · subst h0
    have : pv = [] := List.eq_nil_of_length_eq_zero hlen
    subst this
    have : args = [] := List.eq_nil_of_length_eq_zero hal
    subst this
    have hrun : (Instr.buildSlice t 0 parts).run P W = .ok (.slice (some ⟨W.heap.size, 0, none⟩) 0 0) (W.alloc (.cells #[] et)) := by
      have hp0 : parts.toList = [] := by simpa using hpv
      simp [Instr.buildSlice, run_underlying hu, sizeOf, typeInfo, z4, hp0, Instr.fill, newRow, Array.range_zero']
    obtain ⟨s1, s2⟩ := d3.new_row (t := et) (w := P.cellsOf et) (cap := 0) (xs := []) (cur := #[]) (by simp) (Nat.zero_le _) (Nat.zero_le _) (fun i x hx => by simp at hx)
    simp only [List.flatMap_nil, gones, List.foldl_nil] at s1 s2
    exact ⟨_, _, D', _, hrun, s1, s2⟩
  · have hpos : 0 < len * P.cellsOf et := Nat.mul_pos (by omega) hw
    have hrun : (Instr.buildSlice t len parts).run P W = .ok (.slice (some ⟨W.heap.size, 0, none⟩) len len) (W.alloc (.cells (pv.flatMap fun v => v.cells.toList).toArray et)) := by
      have n1 : ¬ (len * i.size > 16777216) := by rw [← hsz]; omega
      have n2 : ¬ (len * i.size = 0) := by rw [← hsz]; omega
      rw [hsz] at hfill
      simp only [Instr.buildSlice, Sem.run_bind, run_underlying hu, Result.andThen_ok, sizeOf, typeInfo, run_program, z4, Sem.run_pure, Sem.run_ite]
      simp [n1, n2, zeroValue, typeInfo, z4, z5, hfill, newRow]
    have hflen : ((pv.flatMap fun v => v.cells.toList).toArray).size = len * P.cellsOf et := by
      rw [List.size_toArray, flat_len hvs, hlen]
    obtain ⟨s1, s2⟩ := d3.new_row (t := et) (w := P.cellsOf et) (cap := len) (xs := args.map fun x => (emb e.st m x).v) (cur := (pv.flatMap fun v => v.cells.toList).toArray) hflen (by simp only [maxLen]; have := Nat.le_mul_of_pos_right len hw; omega) (by simp [hal]) (fun i x hx => by
      simp only [List.getElem?_map, Option.map_eq_some_iff] at hx
      obtain ⟨x0, hx0, rfl⟩ := hx
      refine ⟨(hc x0 (List.mem_of_getElem? hx0)).2, fun j y hy => ?_⟩
      obtain ⟨v, v1, v2, v3⟩ := each i x0 hx0
      obtain ⟨u, u1, u2⟩ := v3 j y hy
      have hj : j < P.cellsOf et := by
        have := (List.getElem?_eq_some_iff.1 hy).1
        rw [(hc x0 (List.mem_of_getElem? hx0)).2] at this; exact this
      exact ⟨u, by rw [flat_at hvs hj v1]; exact u1, u2⟩)
    have hgl := gones_length (args.flatMap fun x => (emb e.st m x).rs) e.st
    simp only [List.length_map, hal, hgl] at s1 s2
    exact ⟨_, _, D', _, hrun, s1, s2⟩
end
end Go.Ve
namespace Go.Ve
open Go.RowKit
set_option linter.unusedVariables false
set_option linter.unusedSimpArgs false
/-- The zero element of a type. -/
def zel (P : Program) (t : Nat) : AV :=
  match tyOf P t with
  | .agg => .agg (zcells P t)
  | _ => (zcells P t).headD .undef
/-- Part of an element is written. -/
def setEl (y : AV) (j : Nat) (ds : List AV) : AV :=
  match y with
  | .agg cs => .agg (cs.take j ++ ds ++ cs.drop (j + ds.length))
  | _ => ds.headD .undef
/-- What is read of a slice, and when. -/
def src (st : List Root) : AV → Prop × List AV
  | .sl _ _ ys => (True, ys)
  | .osl r w off len => match st[r]? with
    | some (.row _ w' xs) => (w = w' ∧ off + len ≤ xs.length, (xs.drop off).take len)
    | _ => (False, [])
  | .nils => (True, [])
  | _ => (False, [])
def srcw : AV → Nat → Prop
  | .sl _ w _, k => w = k
  | .osl _ w _ _, k => w = k
  | _, _ => True
section
variable {P : Program} {C : Ctx} {sz : Nat} {e : Env} {a : Act} {W : World} {D : Nat → Nat → Prop} {β : Nat → Option Nat}
/-- The elements ys, w cells each, lie in a row news. -/
def Elems (W : World) (D : Nat → Nat → Prop) (w : Nat) (news : List Value) (ys : List AV) : Prop :=
  news.length = ys.length * w ∧ ∀ (i : Nat) (x : AV), ys[i]? = some x → x.cells.length = w ∧ ∀ (j : Nat) (y : AV), x.cells[j]? = some y → ∃ u, news[i * w + j]? = some u ∧ RepD W D u y
theorem Elems.one {w : Nat} {news : List Value} {ys : List AV} (h : Elems W D w news ys) : ∀ u ∈ news, u.oneCell' = true := by
  intro u hu
  obtain ⟨k, hk⟩ := List.mem_iff_getElem?.1 hu
  have hkl := (List.getElem?_eq_some_iff.1 hk).1
  rw [h.1] at hkl
  have hw : 0 < w := by
    rcases Nat.eq_zero_or_pos w with h0 | h0
    · subst h0; simp at hkl
    · exact h0
  have hi : k / w < ys.length := (Nat.div_lt_iff_lt_mul hw).2 hkl
  obtain ⟨h1, h2⟩ := h.2 (k / w) _ (List.getElem?_eq_getElem hi)
  have hj : k % w < ys[k / w].cells.length := by rw [h1]; exact Nat.mod_lt _ hw
  obtain ⟨u', u1, u2⟩ := h2 (k % w) _ (List.getElem?_eq_getElem hj)
  have : k / w * w + k % w = k := by rw [Nat.mul_comm]; exact Nat.div_add_mod k w
  rw [this, hk] at u1
  injection u1 with u1
  subst u1
  exact u2.oneCell
theorem elems_of {w : Nat} {ys : List AV} {g off : Nat} (h : ∀ (i : Nat) (x : AV), ys[i]? = some x → x.cells.length = w ∧ ∀ (j : Nat) (y : AV), x.cells[j]? = some y → ∃ u, W.cell? ⟨g, off + (i * w + j), none⟩ = some u ∧ RepD W D u y) :
    ∃ news, Elems W D w news ys ∧ ∀ (j : Nat) (u : Value), news[j]? = some u → W.cell? ((⟨g, off, none⟩ : Addr).add j) = some u := by
  let f : Nat → Value := fun k => (W.cell? ⟨g, off + k, none⟩).getD undef
  refine ⟨(List.range (ys.length * w)).map f, ⟨by simp, fun i x hx => ⟨(h i x hx).1, fun j y hy => ?_⟩⟩, fun j u hu => ?_⟩
  · obtain ⟨h1, h2⟩ := h i x hx
    obtain ⟨u, u1, u2⟩ := h2 j y hy
    have hi := (List.getElem?_eq_some_iff.1 hx).1
    have hj := (List.getElem?_eq_some_iff.1 hy).1
    have hlt : i * w + j < ys.length * w := by
      have : (i + 1) * w ≤ ys.length * w := Nat.mul_le_mul_right _ hi
      rw [Nat.add_mul, Nat.one_mul] at this
      omega
    exact ⟨u, by simp [hlt, f, u1], u2⟩
  · have hj := (List.getElem?_eq_some_iff.1 hu).1
    simp only [List.length_map, List.length_range] at hj
    have hw : 0 < w := by
      rcases Nat.eq_zero_or_pos w with h0 | h0
      · subst h0; simp at hj
      · exact h0
    have hi : j / w < ys.length := (Nat.div_lt_iff_lt_mul hw).2 hj
    obtain ⟨h1, h2⟩ := h (j / w) _ (List.getElem?_eq_getElem hi)
    have hjm : j % w < ys[j / w].cells.length := by rw [h1]; exact Nat.mod_lt _ hw
    obtain ⟨u', u1, u2⟩ := h2 (j % w) _ (List.getElem?_eq_getElem hjm)
    have e0 : j / w * w + j % w = j := by rw [Nat.mul_comm]; exact Nat.div_add_mod j w
    rw [e0] at u1
    simp [hj, f, u1] at hu
    rw [add_none, u1, hu]
/-- What a slice holds that is read. -/
theorem src_ok {v : Value} {x : AV} {w : Nat} (hs : ∀ r R, e.st[r]? = some R → RootOk W D β r R) (hx : Rep W D β v x) (hc : (src e.st x).1) (hw : srcw x w) :
    ∃ A cap, v = .slice A (src e.st x).2.length cap ∧ ((src e.st x).2 = [] ∨ ∃ (a : Addr) (news : List Value), A = some a ∧ Elems W D w news (src e.st x).2 ∧ ∀ (j : Nat) (u : Value), news[j]? = some u → W.cell? (a.add j) = some u) := by
  cases x <;> simp only [src] at hc ⊢ <;> try exact hc.elim
  case nils =>
    cases hx with
    | data _ _ h => cases h; exact ⟨none, 0, rfl, .inl trivial⟩
  case sl τ w' ys =>
    simp only [srcw] at hw
    subst hw
    obtain ⟨A, cap, rfl, _, h⟩ := sl_inv hx
    refine ⟨A, cap, rfl, ?_⟩
    rcases h with h | ⟨p, u, rfl, hsp, _, _, k1, k2, k3⟩
    · exact .inl h
    · obtain ⟨news, n1, n2⟩ := elems_of (W := W) (D := D) (g := p.block) (off := p.off) (fun i x hx => ⟨k1 i x hx, fun j y hy => ⟨_, k2 i x j y hx hy, k3 i x j y hx hy⟩⟩)
      refine .inr ⟨p, news, rfl, n1, fun j u hu => ?_⟩
      have := n2 j u hu
      have ep : (⟨p.block, p.off, none⟩ : Addr) = p := by cases p; simp only at hsp; subst hsp; rfl
      rw [ep] at this
      exact this
  case osl r w' off len =>
    simp only [srcw] at hw
    subst hw
    cases hr : e.st[r]? with
    | none => simp [hr] at hc
    | some R =>
      cases R <;> simp [hr] at hc
      rename_i t w'' xs
      obtain ⟨rfl, hl⟩ := hc
      simp only [hr]
      have hlen : ((xs.drop off).take len).length = len := by rw [List.length_take, List.length_drop]; omega
      cases hx with
      | data _ _ h => cases h
      | osl _ _ _ _ _ h =>
      rcases h with ⟨_, rfl, _, rfl⟩ | ⟨g, cap, t', cur, h1, rfl, h3, h4, h5, h6⟩
      · exact ⟨none, 0, by simp, .inl (by simp)⟩
      · refine ⟨some ⟨g, off * w', none⟩, cap, by rw [hlen], ?_⟩
        rcases hs r _ hr with ⟨k1, _⟩ | ⟨g', cur', k1, k2, k3⟩
        · rw [k1] at h1; cases h1
        · rw [h1] at k1; injection k1 with k1; subst k1
          have key : ∀ (i : Nat) (x : AV), ((xs.drop off).take len)[i]? = some x → xs[off + i]? = some x := by
            intro i x hx
            rw [List.getElem?_take] at hx
            split at hx
            · rwa [List.getElem?_drop] at hx
            · cases hx
          obtain ⟨news, n1, n2⟩ := elems_of (W := W) (D := D) (g := g) (off := off * w') (ys := (xs.drop off).take len) (w := w') (fun i x hx => ⟨(k3 _ x (key i x hx)).1, fun j y hy => by
            obtain ⟨u, u1, u2⟩ := (k3 _ x (key i x hx)).2 j y hy
            refine ⟨u, ?_, u2⟩
            rw [cell_of_row W g _ cur' t (0, 0) k2]
            have e0 : off * w' + (i * w' + j) = (off + i) * w' + j := by rw [Nat.add_mul, Nat.add_assoc]
            rw [e0]; exact u1⟩)
          exact .inr ⟨_, news, rfl, n1, n2⟩
/-- make([]T, l, c). -/
theorem St.make_slice (h : St C sz e a W D β) {t et : Nat} {kl kc : IntKind} {l c : Int} (ht : tyOf P t = .sl et) (hz : zOk P et = true) (hzd : ∀ y ∈ zcells P et, y.isD = true) (hzl : (zel P et).cells = zcells P et) (hw : 0 < P.cellsOf et)
    (h0 : 0 ≤ l) (h1 : l ≤ c) (h2 : (P.bytesOf et : Int) * c ≤ 140737488355328) (h3 : c ≤ 140737488355328) :
    ∃ u W', (Instr.makeSlice t (.int kl l) (.int kc c)).run P W = .ok u W' ∧ St C sz ⟨e.tm, e.st ++ [.row et (P.cellsOf et) (List.replicate l.toNat (zel P et))]⟩ a W' D (upd β e.st.length W.heap.size) ∧ Rep W' D (upd β e.st.length W.heap.size) u (.osl e.st.length (P.cellsOf et) 0 l.toNat) := by
  have hu := tyOf_sl ht
  obtain ⟨z, z1, z2, z3, zz, i, z4, z5⟩ := zcells_ok (W := W) hz
  have hsz : P.cellsOf et = i.size := by simp [Program.cellsOf, z4]
  have hby : P.bytesOf et = i.bytes := by simp [Program.bytesOf, z4]
  have hrun := run_make (P := P) W t et i z hu z4 z5 kl kc l c h0 h1 (by rw [← hby]; omega) (by omega)
  have hlc : l.toNat ≤ c.toNat := by omega
  obtain ⟨s1, s2⟩ := h.new_row (t := et) (w := P.cellsOf et) (cap := c.toNat) (xs := List.replicate l.toNat (zel P et)) (cur := madeCells z.cells (c.toNat * i.size)) (by rw [size_madeCells, hsz]) (by simp only [maxLen]; omega) (by simpa using hlc) (fun k x hx => by
    have hk : k < l.toNat := by have := (List.getElem?_eq_some_iff.1 hx).1; simpa using this
    rw [List.getElem?_replicate, if_pos hk] at hx
    injection hx with hx
    subst hx
    rw [hzl]
    refine ⟨z2.symm.trans z3, fun j y hy => ?_⟩
    obtain ⟨u, u1, u2, rfl⟩ := zz j y hy
    have hj : j < P.cellsOf et := by rw [← z3]; exact (Array.getElem?_eq_some_iff.1 u1).1
    refine ⟨u, ?_, (rep_ofCell W D β u).toD (hzd _ (List.mem_of_getElem? hy))⟩
    have hlt : k * P.cellsOf et + j < c.toNat * i.size := by
      have : (k + 1) * P.cellsOf et ≤ c.toNat * P.cellsOf et := Nat.mul_le_mul_right _ (by omega)
      rw [Nat.add_mul, Nat.one_mul] at this
      rw [← hsz]; omega
    have hmod : (k * P.cellsOf et + j) % z.cells.size = j := by rw [z3, Nat.mul_comm, Nat.mul_add_mod, Nat.mod_eq_of_lt hj]
    have hjz : j < z.cells.size := by rw [z3]; exact hj
    simp only [madeCells]
    rw [Array.getElem?_map, Array.getElem?_range, if_pos hlt]
    simp only [Option.map_some, hmod]
    rw [getElem!_pos z.cells j hjz]
    rw [← u1, Array.getElem?_eq_getElem hjz])
  rw [List.length_replicate] at s2
  exact ⟨_, _, hrun, s1, s2⟩
theorem mv_setRow (h : St C sz e a W D β) {r g t : Nat} {R : Root} (hr : e.st[r]? = some R) (hR : R ≠ .gone) (hg : β r = some g) {cur cur' : Array Value} (hc : W.heap[g]? = some (.cells cur t (0, 0))) (hs : cur'.size = cur.size) : Mv W (W.setRow g cur') D D β β (fun _ => True) := by
  refine ⟨fun ρ b hb => ⟨setRow_other W g b _ (fun e0 => h.mem.store.far r g ρ ⟨_, hr, hR⟩ hg (e0 ▸ hb)), hb⟩, fun b t' c fr hb => ?_, fun _ _ => rfl⟩
  by_cases hbg : b = g
  · subst hbg
    rw [hc] at hb
    injection hb with hb
    injection hb with e1 e2 e3
    subst e1 e2 e3
    exact ⟨_, setRow_heap W b cur _ t (0, 0) hc, hs⟩
  · exact ⟨c, (setRow_other W g b _ hbg).trans hb, rfl⟩
/-- A row is written: cells of one element, from j on. -/
theorem St.store_row (h : St C sz e a W D β) {m r t tt w i j : Nat} {xs : List AV} {p v : Value} {x : AV} (hm : C.n ≤ m) (hi : (P.info? t).isSome = true) (hc : (emb e.st m x).c)
    (hr : (gones e.st (emb e.st m x).rs)[r]? = some (.row tt w xs)) (hs : (emb e.st m x).v.cells.length = P.cellsOf t) (hix : i < xs.length) (hj : j + (emb e.st m x).v.cells.length ≤ w) (hel : (setEl (nth xs i) j (emb e.st m x).v.cells).cells = (nth xs i).cells.take j ++ (emb e.st m x).v.cells ++ (nth xs i).cells.drop (j + (emb e.st m x).v.cells.length))
    (hx : Rep W D β v x) (hp : Rep W D β p (.ptr r w i j)) :
    ∃ W' D', (Instr.storeAt t p v).run P W = .ok () W' ∧ St C sz ⟨e.tm, (gones e.st (emb e.st m x).rs).set r (.row tt w (xs.set i (setEl (nth xs i) j (emb e.st m x).v.cells)))⟩ a W' D' β := by
  obtain ⟨D', d1, d2, d3⟩ := St.freezes hm (emb e.st m x).rs e.st h (fun r hr => emb_rows hc r hr) (fun r _ => .inl rfl)
  obtain ⟨k1, k2⟩ := emb_ok h.mem.store.root d1 d2 hx hc
  generalize hds : (emb e.st m x).v.cells = ds at *
  rcases d3.mem.store.root r _ hr with ⟨_, rfl⟩ | ⟨g, cur, g1, g2, g3⟩
  · simp at hix
  have hpe : p = .pointer (some ⟨g, i * w + j, none⟩) := by
    cases hp with
    | data _ _ hd => cases hd
    | ptr _ _ _ _ g' hg => rw [g1] at hg; injection hg with hg; subst hg; rfl
  subst hpe
  obtain ⟨e1, e2⟩ := g3 i _ (nth_some hix)
  have fit : i * w + w ≤ cur.size := by
    rcases Nat.eq_zero_or_pos w with h0 | h0
    · subst h0; simp
    · have hlast : w - 1 < (nth xs i).cells.length := by rw [e1]; omega
      obtain ⟨u, u1, _⟩ := e2 (w - 1) _ (List.getElem?_eq_getElem hlast)
      have := (Array.getElem?_eq_some_iff.1 u1).1
      omega
  have one : ∀ u ∈ v.cells.toList, u.oneCell' = true := fun u hu => by
    obtain ⟨q, hq⟩ := List.mem_iff_getElem?.1 hu
    have hql : q < ds.length := by have := (List.getElem?_eq_some_iff.1 hq).1; simp at this; omega
    obtain ⟨u', u1, u2⟩ := k2 q _ (List.getElem?_eq_getElem hql)
    simp only [Array.getElem?_toList] at hq
    rw [hq] at u1; injection u1 with u1; subst u1; exact u2.oneCell
  have hlen : v.cells.toList.length = ds.length := by simpa using k1
  have hrun := run_storeVar (P := P) (v := v) (off := i * w + j) g2 hi (k1.trans hs) (by omega) one
  have hsz : ((cur.toList.take (i * w + j) ++ v.cells.toList ++ cur.toList.drop (i * w + j + v.cells.toList.length)).toArray).size = cur.size := by simp; omega
  refine ⟨_, D', hrun, d3.write hr (by simp) g1 g2 hsz (.inr ⟨g, _, g1, setRow_heap W g cur _ tt (0, 0) g2, fun i' x' hx' => ?_⟩) (fun _ _ _ _ hR _ _ => by cases hR)⟩
  have hmv := mv_setRow d3 hr (by simp) g1 g2 hsz
  have get : ∀ k, ((cur.toList.take (i * w + j) ++ v.cells.toList ++ cur.toList.drop (i * w + j + v.cells.toList.length)).toArray)[k]? = if k < i * w + j then cur[k]? else if k < i * w + j + ds.length then v.cells[k - (i * w + j)]? else cur[k]? := by
    intro k
    rw [List.getElem?_toArray]
    by_cases h1 : k < i * w + j
    · rw [if_pos h1, List.append_assoc, List.getElem?_append_left (by rw [List.length_take]; simp; omega), List.getElem?_take, if_pos h1]
      simp
    · rw [if_neg h1]
      by_cases h2 : k < i * w + j + ds.length
      · rw [if_pos h2, List.append_assoc, List.getElem?_append_right (by rw [List.length_take]; omega), List.length_take, List.getElem?_append_left (by simp only [Array.length_toList]; simp at hlen; omega)]
        simp only [Array.length_toList, Nat.min_eq_left (by omega : i * w + j ≤ cur.size), Array.getElem?_toList]
      · rw [if_neg h2, List.getElem?_append_right (by rw [List.length_append, List.length_take]; simp only [Array.length_toList]; simp at hlen; omega), List.length_append, List.length_take, List.getElem?_drop]
        simp only [Array.length_toList, Nat.min_eq_left (by omega : i * w + j ≤ cur.size)]
        have : i * w + j + v.cells.size + (k - (i * w + j + v.cells.size)) = k := by simp at hlen; omega
        rw [this]; simp
  have cmp : ∀ i' j', j' < w → i' ≠ i → ¬ (i * w + j ≤ i' * w + j' ∧ i' * w + j' < i * w + j + ds.length) := by
    intro i' j' hj' hne hh
    rcases Nat.lt_or_gt_of_ne hne with hl | hl
    · have : (i' + 1) * w ≤ i * w := Nat.mul_le_mul_right _ hl
      rw [Nat.add_mul, Nat.one_mul] at this
      omega
    · have : (i + 1) * w ≤ i' * w := Nat.mul_le_mul_right _ hl
      rw [Nat.add_mul, Nat.one_mul] at this
      omega
  by_cases hii : i' = i
  · subst hii
    rw [List.getElem?_set_self hix] at hx'
    injection hx' with hx'
    subst hx'
    rw [hel]
    refine ⟨by simp only [List.length_append, List.length_take, List.length_drop]; omega, fun j' y hy => ?_⟩
    rw [get]
    by_cases h1 : j' < j
    · rw [List.append_assoc, List.getElem?_append_left (by rw [List.length_take]; omega), List.getElem?_take, if_pos h1] at hy
      obtain ⟨u, u1, u2⟩ := e2 j' y hy
      exact ⟨u, by rw [if_pos (by omega)]; exact u1, u2.mono hmv.data⟩
    · by_cases h2 : j' < j + ds.length
      · rw [List.append_assoc, List.getElem?_append_right (by rw [List.length_take]; omega), List.length_take, Nat.min_eq_left (by omega), List.getElem?_append_left (by omega)] at hy
        obtain ⟨u, u1, u2⟩ := k2 _ y hy
        refine ⟨u, ?_, u2.mono hmv.data⟩
        rw [if_neg (by omega), if_pos (by omega)]
        have : i' * w + j' - (i' * w + j) = j' - j := by omega
        rw [this]; exact u1
      · rw [List.getElem?_append_right (by rw [List.length_append, List.length_take]; omega), List.length_append, List.length_take, Nat.min_eq_left (by omega), List.getElem?_drop] at hy
        have e0 : j + ds.length + (j' - (j + ds.length)) = j' := by omega
        rw [e0] at hy
        obtain ⟨u, u1, u2⟩ := e2 j' y hy
        exact ⟨u, by rw [if_neg (by omega), if_neg (by omega)]; exact u1, u2.mono hmv.data⟩
  · rw [List.getElem?_set_ne (fun e0 => hii e0.symm)] at hx'
    obtain ⟨f1, f2⟩ := g3 i' x' hx'
    refine ⟨f1, fun j' y hy => ?_⟩
    have hj' : j' < w := by rw [← f1]; exact (List.getElem?_eq_some_iff.1 hy).1
    have := cmp i' j' hj' hii
    obtain ⟨u, u1, u2⟩ := f2 j' y hy
    refine ⟨u, ?_, u2.mono hmv.data⟩
    rw [get]
    by_cases h1 : i' * w + j' < i * w + j
    · rw [if_pos h1]; exact u1
    · rw [if_neg h1, if_neg (by omega)]; exact u1
end
end Go.Ve
namespace Go.Ve
open Go.RowKit
set_option linter.unusedVariables false
set_option linter.unusedSimpArgs false
section
variable {P : Program} {C : Ctx} {sz : Nat} {e : Env} {a : Act} {W : World} {D : Nat → Nat → Prop} {β : Nat → Option Nat}
theorem set_app_gone {st : List Root} {r : Nat} {R : Root} (h : r < st.length) : (st ++ [R]).set r .gone = st.set r .gone ++ [R] := by
  rw [List.set_append_left _ _ h]
/-- Elements behind elements. -/
theorem Elems.cells {w : Nat} {news : List Value} {ys : List AV} (h : Elems W D w news ys) {rest : List Value} : ∀ (i : Nat) (x : AV), ys[i]? = some x → x.cells.length = w ∧ ∀ (j : Nat) (y : AV), x.cells[j]? = some y → ∃ u, (news ++ rest)[i * w + j]? = some u ∧ RepD W D u y := by
  intro i x hx
  refine ⟨(h.2 i x hx).1, fun j y hy => ?_⟩
  obtain ⟨u, u1, u2⟩ := (h.2 i x hx).2 j y hy
  exact ⟨u, by rw [List.getElem?_append_left (List.getElem?_eq_some_iff.1 u1).1]; exact u1, u2⟩
theorem Elems.append {w : Nat} {n1 n2 : List Value} {x1 x2 : List AV} (h1 : Elems W D w n1 x1) (h2 : Elems W D w n2 x2) : Elems W D w (n1 ++ n2) (x1 ++ x2) := by
  refine ⟨by rw [List.length_append, List.length_append, h1.1, h2.1, Nat.add_mul], fun i x hx => ?_⟩
  by_cases hi : i < x1.length
  · rw [List.getElem?_append_left hi] at hx
    exact h1.cells i x hx
  · rw [List.getElem?_append_right (by omega)] at hx
    refine ⟨(h2.2 _ x hx).1, fun j y hy => ?_⟩
    obtain ⟨u, u1, u2⟩ := (h2.2 _ x hx).2 j y hy
    refine ⟨u, ?_, u2⟩
    have e0 : i * w = x1.length * w + (i - x1.length) * w := by rw [← Nat.add_mul]; congr 1; omega
    rw [List.getElem?_append_right (by rw [h1.1]; omega), h1.1]
    have : i * w + j - x1.length * w = (i - x1.length) * w + j := by omega
    rw [this]; exact u1
theorem Elems.mono {W' : World} {D' : Nat → Nat → Prop} {w : Nat} {news : List Value} {ys : List AV} (h : Elems W D w news ys) (hm : ∀ ρ b, D ρ b → W'.heap[b]? = W.heap[b]? ∧ D' ρ b) : Elems W' D' w news ys :=
  ⟨h.1, fun i x hx => ⟨(h.2 i x hx).1, fun j y hy => let ⟨u, u1, u2⟩ := (h.2 i x hx).2 j y hy; ⟨u, u1, u2.mono hm⟩⟩⟩
/-- A row of a root, as elements. -/
theorem row_elems {r t w : Nat} {xs : List AV} {g : Nat} (hR : RootOk W D β r (.row t w xs)) (hg : β r = some g) : ∃ cur, W.heap[g]? = some (.cells cur t (0, 0)) ∧ ∃ olds, Elems W D w olds xs ∧ ∀ (j : Nat) (u : Value), olds[j]? = some u → W.cell? ((⟨g, 0, none⟩ : Addr).add j) = some u ∧ cur[j]? = some u := by
  rcases hR with ⟨h1, _⟩ | ⟨g', cur, h1, h2, h3⟩
  · rw [hg] at h1; cases h1
  · rw [hg] at h1; injection h1 with h1; subst h1
    obtain ⟨olds, o1, o2⟩ := elems_of (W := W) (D := D) (g := g) (off := 0) (ys := xs) (w := w) (fun i x hx => ⟨(h3 i x hx).1, fun j y hy => by
      obtain ⟨u, u1, u2⟩ := (h3 i x hx).2 j y hy
      exact ⟨u, by rw [Nat.zero_add, cell_of_row W g _ cur t (0, 0) h2]; exact u1, u2⟩⟩)
    refine ⟨cur, h2, olds, o1, fun j u hu => ⟨o2 j u hu, ?_⟩⟩
    have := o2 j u hu
    rw [add_none, Nat.zero_add, cell_of_row W g _ cur t (0, 0) h2] at this
    exact this
/-- A fresh row made by append, behind a draw. -/
theorem St.grown_row (h : St C sz e a W D β) {t w n cap : Nat} {xs : List AV} {all : List Value} {z : Array Value} (hz : z.size = w) (hel : Elems W D w all xs) (hn : xs.length = n) (hcap : n ≤ cap) (hcm : cap ≤ maxLen) :
    St C sz ⟨e.tm, e.st ++ [.row t w xs]⟩ a (W.drew.alloc (.cells (all.toArray ++ Builtin.zeroCells z (cap - n)) t)) D (upd β e.st.length W.heap.size) ∧
      Rep (W.drew.alloc (.cells (all.toArray ++ Builtin.zeroCells z (cap - n)) t)) D (upd β e.st.length W.heap.size) (.slice (some ⟨W.heap.size, 0, none⟩) n cap) (.osl e.st.length w 0 n) := by
  subst hn
  refine h.drew.new_row (t := t) (w := w) (cap := cap) (xs := xs) (cur := all.toArray ++ Builtin.zeroCells z (cap - xs.length)) ?_ hcm hcap (fun i x hx => ?_)
  · rw [Array.size_append, size_zeroCells, hz, List.size_toArray, hel.1, ← Nat.add_mul]
    congr 1
    omega
  · refine ⟨(hel.2 i x hx).1, fun j y hy => ?_⟩
    obtain ⟨u, u1, u2⟩ := (hel.2 i x hx).2 j y hy
    refine ⟨u, ?_, u2.mono (W := W) (W' := W.drew) (D' := D) (fun ρ b hb => ⟨rfl, hb⟩)⟩
    have hl := (List.getElem?_eq_some_iff.1 u1).1
    rw [Array.getElem?_append_left (by simpa using hl)]
    simpa using u1
/-- append to nil. -/
theorem St.append_nil (h : St C sz e a W D β) {t ty et c : Nat} {A : Option Addr} {ys : List AV} (ht : tyOf P t = .sl et) (hz : zOk P et = true) (hb : 0 < P.bytesOf et) (hl : ys.length * P.bytesOf et ≤ 140737488355328)
    (hsrc : ys = [] ∨ ∃ (p : Addr) (news : List Value), A = some p ∧ Elems W D (P.cellsOf et) news ys ∧ ∀ (j : Nat) (u : Value), news[j]? = some u → W.cell? (p.add j) = some u) :
    ∃ u W' β', (Builtin.append_ #[t, t] ty #[.slice none 0 0, .slice A ys.length c]).run P W = .ok u W' ∧ St C sz ⟨e.tm, e.st ++ [.row et (P.cellsOf et) ys]⟩ a W' D β' ∧ Rep W' D β' u (.osl e.st.length (P.cellsOf et) 0 ys.length) := by
  have hu := tyOf_sl ht
  obtain ⟨z, z1, z2, z3, _, i, z4, z5⟩ := zcells_ok (W := W) hz
  have hsz : P.cellsOf et = i.size := by simp [Program.cellsOf, z4]
  have hby : P.bytesOf et = i.bytes := by simp [Program.bytesOf, z4]
  have hlen : ys.length ≤ 140737488355328 := Nat.le_trans (Nat.le_mul_of_pos_right _ hb) hl
  by_cases h0 : ys.length = 0
  · have : ys = [] := List.eq_nil_of_length_eq_zero h0
    subst this
    obtain ⟨β', _, s1, s2⟩ := h.virt et (P.cellsOf et)
    refine ⟨.slice none 0 0, W, β', ?_, s1, s2⟩
    cases A <;> simp [Builtin.append_, run_underlying hu, sizeOf, typeInfo, z4, Builtin.lenOf, Builtin.firstCells, loadCells, loadCellsFrom]
  · rcases hsrc with rfl | ⟨p, news, rfl, n1, n2⟩
    · simp at h0
    have hrun := run_append_nil (P := P) W t ty et i z hu z4 z5 p ys.length c news (by rw [← hsz]; exact n1.1) n2 (by omega) (by omega) (by rw [← hby]; omega)
    obtain ⟨s1, s2⟩ := h.grown_row (t := et) (n := ys.length) (cap := grownCap W ys.length 0 et) (z := z.cells) z3 n1 rfl (grownCap_ge ..) (grownCap_le_maxLen _ _ _ _ (by simp only [maxLen]; omega))
    exact ⟨_, _, _, hrun, s1, s2⟩
/-- append to a row of a root. -/
theorem St.append_row (h : St C sz e a W D β) {t ty et w c r tt : Nat} {A : Option Addr} {xs ys : List AV} {v : Value} (ht : tyOf P t = .sl et) (hz : zOk P et = true) (hb : 0 < P.bytesOf et) (hw : P.cellsOf et = w) (hw0 : 0 < w) (htt : tt = et)
    (hr : e.st[r]? = some (.row tt w xs)) (hv : Rep W D β v (.osl r w 0 xs.length)) (hl : (xs.length + ys.length) * P.bytesOf et ≤ 140737488355328)
    (hsrc : ys = [] ∨ ∃ (p : Addr) (news : List Value), A = some p ∧ Elems W D w news ys ∧ ∀ (j : Nat) (u : Value), news[j]? = some u → W.cell? (p.add j) = some u) :
    ∃ u W' β', (Builtin.append_ #[t, t] ty #[v, .slice A ys.length c]).run P W = .ok u W' ∧ St C sz ⟨e.tm, e.st.set r .gone ++ [.row et w (xs ++ ys)]⟩ a W' D β' ∧ Rep W' D β' u (.osl e.st.length w 0 (xs.length + ys.length)) := by
  subst htt
  subst hw
  have hu := tyOf_sl ht
  have hrl : r < e.st.length := (List.getElem?_eq_some_iff.1 hr).1
  obtain ⟨z, z1, z2, z3, _, i, z4, z5⟩ := zcells_ok (W := W) hz
  have hsz : P.cellsOf tt = i.size := by simp [Program.cellsOf, z4]
  have hby : P.bytesOf tt = i.bytes := by simp [Program.bytesOf, z4]
  have hlen : xs.length + ys.length ≤ 140737488355328 := Nat.le_trans (Nat.le_mul_of_pos_right _ hb) hl
  have hm : xs.length + ys.length ≤ maxLen := by simp only [maxLen]; omega
  cases hv with
  | data _ _ hd => cases hd
  | osl _ _ _ _ _ ho =>
  rcases ho with ⟨h1, rfl, _, h2⟩ | ⟨g, cap, t', cur0, h1, rfl, h3, h4, h5, h6⟩
  · -- nil
    have hx : xs = [] := List.eq_nil_of_length_eq_zero h2
    subst hx
    by_cases hy0 : ys.length = 0
    · have : ys = [] := List.eq_nil_of_length_eq_zero hy0
      subst this
      obtain ⟨β', b1, b2, s1⟩ := h.renew hr (by simp)
      refine ⟨.slice none 0 0, W, β', ?_, s1, .osl _ _ _ _ _ (.inl ⟨b2.trans h1, rfl, rfl, rfl⟩)⟩
      cases A <;> simp [Builtin.append_, run_underlying hu, sizeOf, typeInfo, z4, Builtin.lenOf, Builtin.firstCells, loadCells, loadCellsFrom]
    · obtain ⟨u, W', β', k1, k2, k3⟩ := h.append_nil (P := P) (c := c) (ty := ty) ht hz hb (by simpa using hl) hsrc
      have k2' := k2.gone r
      simp only [set_app_gone hrl] at k2'
      exact ⟨u, W', β', by simpa using k1, by simpa using k2', by simpa using k3⟩
  · obtain ⟨cur, c1, olds, o1, o2⟩ := row_elems (h.mem.store.root r _ hr) h1
    rw [c1] at h3
    injection h3 with h3
    injection h3 with e1 e2 e3
    subst e1 e2
    simp only [Nat.zero_mul, Nat.zero_add] at h4 h5 ⊢
    by_cases hy0 : ys.length = 0
    · have : ys = [] := List.eq_nil_of_length_eq_zero hy0
      subst this
      obtain ⟨β', b1, b2, s1⟩ := h.renew hr (by simp)
      refine ⟨.slice (some ⟨g, 0, none⟩) xs.length cap, W, β', ?_, by simpa using s1, ?_⟩
      · cases A <;> simp [Builtin.append_, run_underlying hu, sizeOf, typeInfo, z4, Builtin.lenOf, Builtin.firstCells, loadCells, loadCellsFrom, h6, storeCells]
      · refine .osl _ _ _ _ _ (.inr ⟨g, cap, tt, cur, b2.trans h1, by simp, c1, by simpa using h4, by omega, by simpa using h6⟩)
    · rcases hsrc with rfl | ⟨p, news, rfl, n1, n2⟩
      · simp at hy0
      have hol : olds.length = xs.length * P.cellsOf tt := o1.1
      have hnl : news.length = ys.length * P.cellsOf tt := n1.1
      by_cases hroom : xs.length + ys.length ≤ cap
      · have hfit : xs.length * i.size + news.length ≤ cur.size := by rw [hnl, h4, ← hsz, ← Nat.add_mul]; exact Nat.mul_le_mul_right _ hroom
        have hrun := run_append_room (P := P) W t ty tt i hu z4 g xs.length cap cur c1 p ys.length c news (by rw [← hsz]; exact hnl) n2 n1.one hroom hfit
        rw [← hsz] at hrun hfit
        have hsz' : ((cur.toList.take (xs.length * P.cellsOf tt) ++ news ++ cur.toList.drop (xs.length * P.cellsOf tt + news.length)).toArray).size = cur.size := by
          simp; omega
        have htake : cur.toList.take (xs.length * P.cellsOf tt) = olds := by
          apply List.ext_getElem?
          intro k
          by_cases hk : k < xs.length * P.cellsOf tt
          · rw [List.getElem?_take, if_pos hk]
            obtain ⟨u, hu⟩ : ∃ u, olds[k]? = some u := ⟨_, List.getElem?_eq_getElem (by omega)⟩
            rw [hu]
            simpa using (o2 k u hu).2
          · rw [List.getElem?_take, if_neg hk, List.getElem?_eq_none (by omega)]
        have hmv := mv_setRow h hr (by simp) h1 c1 hsz'
        have s1 := h.write (R' := .row tt (P.cellsOf tt) (xs ++ ys)) hr (by simp) h1 c1 hsz' (.inr ⟨g, _, h1, setRow_heap W g cur _ tt (0, 0) c1, fun k x hx => by
          have := ((o1.append n1).mono hmv.data).cells (rest := cur.toList.drop (xs.length * P.cellsOf tt + news.length)) k x hx
          refine ⟨this.1, fun j y hy => ?_⟩
          obtain ⟨u, u1, u2⟩ := this.2 j y hy
          exact ⟨u, by rw [htake, List.getElem?_toArray]; exact u1, u2⟩⟩) (fun _ _ _ _ hR _ _ => by cases hR)
        obtain ⟨β', b1, b2, s2⟩ := s1.renew (r := r) (R := .row tt (P.cellsOf tt) (xs ++ ys)) (by simp [hrl]) (by simp)
        simp only [List.set_set, List.length_set] at s2 b1 b2
        refine ⟨_, _, β', hrun, s2, .osl _ _ _ _ _ (.inr ⟨g, cap, tt, _, b2.trans h1, by simp, setRow_heap W g cur _ tt (0, 0) c1, ?_, by omega, hroom⟩)⟩
        rw [hsz', h4]; simp
      · have hrun := run_append_grow (P := P) W t ty tt i z hu z4 z5 ⟨g, 0, none⟩ xs.length cap olds (by rw [← hsz]; exact hol) (fun j u hu => (o2 j u hu).1) p ys.length c news (by rw [← hsz]; exact hnl) n2 (by omega) (by omega) (growslice_fits (by omega) (by rw [← hby]; exact hl))
        obtain ⟨s1, s2⟩ := h.grown_row (t := tt) (n := xs.length + ys.length) (cap := grownCap W (xs.length + ys.length) cap tt) (z := z.cells) z3 (o1.append n1) (by simp) (grownCap_ge ..) (grownCap_le_maxLen _ _ _ _ hm)
        have s1' := s1.gone r
        simp only [set_app_gone hrl] at s1'
        have ea : olds.toArray ++ news.toArray = (olds ++ news).toArray := by simp
        rw [ea] at hrun
        exact ⟨_, _, _, hrun, s1', s2⟩
theorem St.copy_row (h : St C sz e a W D β) {dT sT ty et off len c r tt : Nat} {A : Option Addr} {xs ys : List AV} {v : Value} (ht : tyOf P dT = .sl et) (hw : P.cellsOf et = 1) (hi : (P.info? et).isSome = true)
    (hr : e.st[r]? = some (.row tt 1 xs)) (hv : Rep W D β v (.osl r 1 off len)) (hf : off + len ≤ xs.length)
    (hsrc : ys = [] ∨ ∃ (p : Addr) (news : List Value), A = some p ∧ Elems W D 1 news ys ∧ ∀ (j : Nat) (u : Value), news[j]? = some u → W.cell? (p.add j) = some u) :
    ∃ W', (Builtin.copy_ #[dT, sT] ty #[v, .slice A ys.length c]).run P W = .ok (.int .i64 (min ys.length len : Nat)) W' ∧ St C sz ⟨e.tm, e.st.set r (.row tt 1 (xs.take off ++ ys.take (min ys.length len) ++ xs.drop (off + min ys.length len)))⟩ a W' D β := by
  have hu := tyOf_sl ht
  have hrl : r < e.st.length := (List.getElem?_eq_some_iff.1 hr).1
  obtain ⟨i, z4⟩ := Option.isSome_iff_exists.1 hi
  have hsz : i.size = 1 := by simpa [Program.cellsOf, z4] using hw
  have same : ∀ n, n = 0 → xs.take off ++ ys.take n ++ xs.drop (off + n) = xs := by
    intro n hn
    subst hn
    simp
  by_cases h0 : min ys.length len = 0
  · have hst : e.st.set r (.row tt 1 (xs.take off ++ ys.take (min ys.length len) ++ xs.drop (off + min ys.length len))) = e.st := by
      rw [same _ h0]
      apply List.ext_getElem?
      intro k
      by_cases hk : r = k
      · subst hk; rw [List.getElem?_set_self hrl, hr]
      · rw [List.getElem?_set_ne hk]
    rw [hst, h0]
    refine ⟨W, ?_, h⟩
    have hfc : (Builtin.firstCells 1 0 (.slice A ys.length c)).run P W = .ok #[] W := by
      cases A <;> simp [Builtin.firstCells, loadCells, loadCellsFrom]
    have hmin : Nat.min ys.length len = 0 := h0
    cases hv with
    | data _ _ hd => cases hd
    | osl _ _ _ _ _ ho =>
    rcases ho with ⟨_, rfl, _, rfl⟩ | ⟨g, cap, t', cur, _, rfl, _⟩
    · simp [Builtin.copy_, run_underlying hu, sizeOf, typeInfo, z4, hsz, Builtin.lenOf, hfc, goInt]
    · simp [Builtin.copy_, run_underlying hu, sizeOf, typeInfo, z4, hsz, Builtin.lenOf, hmin, hfc, storeCells, goInt]
  · rcases hsrc with rfl | ⟨p, news, rfl, n1, n2⟩
    · simp at h0
    cases hv with
    | data _ _ hd => cases hd
    | osl _ _ _ _ _ ho =>
    rcases ho with ⟨_, _, _, rfl⟩ | ⟨g, cap, t', cur0, h1, rfl, h3, h4, h5, h6⟩
    · simp at h0
    obtain ⟨cur, c1, olds, o1, o2⟩ := row_elems (h.mem.store.root r _ hr) h1
    rw [c1] at h3
    injection h3 with h3
    injection h3 with e1 e2 e3
    subst e1 e2
    have hnl : news.length = ys.length := by rw [n1.1, Nat.mul_one]
    have hol : olds.length = xs.length := by rw [o1.1, Nat.mul_one]
    have holc : xs.length ≤ cur.size := by
      rcases Nat.eq_zero_or_pos xs.length with hz | hz
      · omega
      · obtain ⟨u, hu⟩ : ∃ u, olds[xs.length - 1]? = some u := ⟨_, List.getElem?_eq_getElem (by omega)⟩
        have := (Array.getElem?_eq_some_iff.1 (o2 _ u hu).2).1
        omega
    generalize hn : min ys.length len = n at *
    have hnle : n ≤ ys.length := by omega
    have hcs : (news.take n).length = n := by rw [List.length_take]; omega
    have hrun := run_copy_row (P := P) W dT sT ty et g off len cap p ys.length c cur tt (news.take n) hu (by simp [z4, hsz]) c1 (by rw [hcs]; exact hn.symm) (fun j u hj => n2 j u (by rw [List.getElem?_take] at hj; split at hj <;> simp_all)) (by rw [hcs]; omega) (fun u hu => n1.one u (List.mem_of_mem_take hu))
    rw [hcs] at hrun
    have e9 : off * 1 = off := Nat.mul_one _
    rw [e9]
    have hsz' : ((cur.toList.take off ++ news.take n ++ cur.toList.drop (off + n)).toArray).size = cur.size := by
      simp only [List.size_toArray, List.length_append, List.length_take, List.length_drop, Array.length_toList]; omega
    have hmv := mv_setRow h hr (by simp) h1 c1 hsz'
    refine ⟨_, hrun, h.write hr (by simp) h1 c1 hsz' (.inr ⟨g, _, h1, setRow_heap W g cur _ tt (0, 0) c1, fun k x hx => ?_⟩) (fun _ _ _ _ hR _ _ => by cases hR)⟩
    by_cases k1 : k < off
    · rw [List.append_assoc, List.getElem?_append_left (by rw [List.length_take]; omega), List.getElem?_take, if_pos k1] at hx
      obtain ⟨f1, f2⟩ := o1.2 k x hx
      refine ⟨f1, fun j y hy => ?_⟩
      obtain ⟨u, u1, u2⟩ := f2 j y hy
      have hj : j = 0 := by have := (List.getElem?_eq_some_iff.1 hy).1; omega
      subst hj
      simp only [Nat.mul_one, Nat.add_zero] at u1 ⊢
      refine ⟨u, ?_, u2.mono hmv.data⟩
      rw [List.getElem?_toArray, List.append_assoc, List.getElem?_append_left (by rw [List.length_take]; simp; omega), List.getElem?_take, if_pos k1]
      simpa using (o2 k u u1).2
    · by_cases k2 : k < off + n
      · rw [List.append_assoc, List.getElem?_append_right (by rw [List.length_take]; omega), List.length_take, Nat.min_eq_left (by omega), List.getElem?_append_left (by rw [List.length_take]; omega), List.getElem?_take, if_pos (by omega)] at hx
        obtain ⟨f1, f2⟩ := n1.2 _ x hx
        refine ⟨f1, fun j y hy => ?_⟩
        obtain ⟨u, u1, u2⟩ := f2 j y hy
        have hj : j = 0 := by have := (List.getElem?_eq_some_iff.1 hy).1; omega
        subst hj
        simp only [Nat.mul_one, Nat.add_zero] at u1 ⊢
        refine ⟨u, ?_, u2.mono hmv.data⟩
        rw [List.getElem?_toArray, List.append_assoc, List.getElem?_append_right (by rw [List.length_take]; simp; omega), List.length_take, List.getElem?_append_left (by rw [hcs]; simp; omega), List.getElem?_take]
        simp only [Array.length_toList, Nat.min_eq_left (by omega : off ≤ cur.size)]
        rw [if_pos (by omega)]
        exact u1
      · rw [List.getElem?_append_right (by rw [List.length_append, List.length_take, List.length_take]; omega), List.length_append, List.length_take, List.length_take, List.getElem?_drop] at hx
        have e0 : off + n + (k - (min off xs.length + min n ys.length)) = k := by omega
        rw [e0] at hx
        obtain ⟨f1, f2⟩ := o1.2 k x hx
        refine ⟨f1, fun j y hy => ?_⟩
        obtain ⟨u, u1, u2⟩ := f2 j y hy
        have hj : j = 0 := by have := (List.getElem?_eq_some_iff.1 hy).1; omega
        subst hj
        simp only [Nat.mul_one, Nat.add_zero] at u1 ⊢
        refine ⟨u, ?_, u2.mono hmv.data⟩
        rw [List.getElem?_toArray, List.getElem?_append_right (by rw [List.length_append, List.length_take, hcs]; simp; omega), List.length_append, List.length_take, hcs, List.getElem?_drop]
        have e1 : off + n + (k - (min off cur.toList.length + n)) = k := by simp only [Array.length_toList]; omega
        rw [e1]
        simpa using (o2 k u u1).2
theorem St.make_map (h : St C sz e a W D β) : St C sz ⟨e.tm, e.st ++ [.mp []]⟩ a (W.alloc (.map #[] 0)) D (upd β e.st.length W.heap.size) ∧ Rep (W.alloc (.map #[] 0)) D (upd β e.st.length W.heap.size) (.map (some W.heap.size)) (.map e.st.length) :=
  ⟨h.alloc _ _ ⟨W.heap.size, #[], 0, by simp [upd], ha_new W _, rfl, fun i k x hx => by simp at hx⟩ (fun _ _ _ _ hR _ _ => by cases hR), .map _ _ (by simp [upd])⟩
/-- The entry of a key is written. -/
def kvSet (kv : List (AV × AV)) (k v : AV) : Option (List (AV × AV)) :=
  match kv with
  | [] => some [(k, v)]
  | (k', v') :: kv => match cellEq k k' with
    | some b => match kvSet kv k v with
      | some r => some (bif b then (k, v) :: kv else (k', v') :: r)
      | none => none
    | none => none
def KvOk (W : World) (D : Nat → Nat → Prop) (es : List MapEntry) (kv : List (AV × AV)) : Prop :=
  es.length = kv.length ∧ ∀ (i : Nat) (k x : AV), kv[i]? = some (k, x) → ∃ e, es[i]? = some e ∧ RepD W D e.key k ∧ RepD W D e.val x
theorem KvOk.tail {es : List MapEntry} {kv : List (AV × AV)} {e0 : MapEntry} {p : AV × AV} (h : KvOk W D (e0 :: es) (p :: kv)) : KvOk W D es kv :=
  ⟨by simpa using h.1, fun i k x hi => by simpa using h.2 (i + 1) k x (by simpa using hi)⟩
theorem KvOk.cons {es : List MapEntry} {kv : List (AV × AV)} {e0 : MapEntry} {k x : AV} (h : KvOk W D es kv) (hk : RepD W D e0.key k) (hx : RepD W D e0.val x) : KvOk W D (e0 :: es) ((k, x) :: kv) :=
  ⟨by simpa using h.1, fun i k' x' hi => by
    cases i with
    | zero => simp at hi; obtain ⟨rfl, rfl⟩ := hi; exact ⟨e0, rfl, hk, hx⟩
    | succ i => simpa using h.2 i k' x' (by simpa using hi)⟩
theorem kvSet_ok {kt : Nat} {d : TypeDesc} (hd : P.underlying kt = some d) {vk vx : Value} {k x : AV} (hk : keyOk P kt k = true) (hvk : RepD W D vk k) (hvx : RepD W D vx x) (born : Nat) : ∀ (kv : List (AV × AV)) (es : List MapEntry) (i : Nat) (r : List (AV × AV)), KvOk W D es kv → kvSet kv k x = some r →
    (Instr.findNow d vk es i = some none ∧ KvOk W D (es ++ [{ key := vk, val := vx, born := born }]) r) ∨
    ∃ j e0, Instr.findNow d vk es i = some (some (i + j, e0.val)) ∧ es[j]? = some e0 ∧ Instr.sameBits 10000 e0.key vk = true ∧ KvOk W D (es.modify j fun e => { e with key := vk, val := vx }) r
  | [], [], i, r, _, h => by
    simp only [kvSet, Option.some.injEq] at h
    subst h
    exact .inl ⟨rfl, KvOk.cons ⟨rfl, fun i k x hi => by simp at hi⟩ hvk hvx⟩
  | [], _ :: _, _, _, hl, _ => by simp [KvOk] at hl
  | _ :: _, [], _, _, hl, _ => by simp [KvOk] at hl
  | (k', x') :: kv, e0 :: es, i, r, hok, h => by
    simp only [kvSet] at h
    obtain ⟨e1, he1, h1, h2⟩ := hok.2 0 k' x' rfl
    simp only [List.getElem?_cons_zero, Option.some.injEq] at he1
    subst he1
    cases hc : cellEq k k' with
    | none => simp [hc] at h
    | some b =>
      cases hf : kvSet kv k x with
      | none => simp [hc, hf] at h
      | some r' =>
        simp only [hc, hf, Option.some.injEq] at h
        have hs := sameNow_ok hd hk hvk h1 hc
        cases b
        · simp only [cond_false] at h
          subst h
          rcases kvSet_ok hd hk hvk hvx born kv es (i + 1) r' hok.tail hf with ⟨h3, h4⟩ | ⟨j, e2, h3, h4, h5, h6⟩
          · exact .inl ⟨by simp only [Instr.findNow, hs]; exact h3, h4.cons h1 h2⟩
          · exact .inr ⟨j + 1, e2, by simp only [Instr.findNow, hs]; rw [h3]; congr 3; omega, by simpa using h4, h5, by simpa using h6.cons h1 h2⟩
        · simp only [cond_true] at h
          subst h
          refine .inr ⟨0, e0, by simp only [Instr.findNow, hs]; rfl, rfl, ?_, by simpa using hok.tail.cons (e0 := { e0 with key := vk, val := vx }) hvk hvx⟩
          -- the same bits
          generalize e0.key = ek at h1
          rcases keyOk_kind hk with ⟨a, n, rfl⟩ | ⟨b, rfl⟩ | ⟨s, rfl⟩ <;> cases k' <;> simp only [cellEq] at hc <;> try cases hc
          · split at hc <;> try cases hc
            rename_i hkk
            subst hkk
            cases hvk; cases h1
            simp at hc
            simp [Instr.sameBits, hc]
          · cases hvk; cases h1
            simp at hc
            simp [Instr.sameBits, hc]
          · cases hvk; cases h1
            simp at hc
            subst hc
            simp [Instr.sameBits, beq_toListBytes]
theorem St.write_map (h : St C sz e a W D β) {r g : Nat} {kv kv' : List (AV × AV)} {es es' : Array MapEntry} {clk clk' : Nat} (hr : e.st[r]? = some (.mp kv)) (hg : β r = some g) (hc : W.heap[g]? = some (.map es clk)) (hk : KvOk W D es'.toList kv') :
    St C sz ⟨e.tm, e.st.set r (.mp kv')⟩ a { W with heap := W.heap.setIfInBounds g (.map es' clk') } D β := by
  have hlive : Live e.st r := ⟨_, hr, by simp⟩
  have hlt := @block_lt W D β e.st h.mem.store.root
  have hgl : g < W.heap.size := hlt hlive hg
  have other : ∀ b, b ≠ g → (W.heap.setIfInBounds g (.map es' clk'))[b]? = W.heap[b]? := fun b hb => by
    rw [Array.getElem?_setIfInBounds_ne (fun e0 => hb e0.symm)]
  have keep : Keeps W { W with heap := W.heap.setIfInBounds g (.map es' clk') } := fun b t' c fr hb => by
    by_cases hbg : b = g
    · subst hbg
      rw [hc] at hb
      cases hb
    · exact ⟨c, (other b hbg).trans hb, rfl⟩
  have hmv : Mv W { W with heap := W.heap.setIfInBounds g (.map es' clk') } D D β β (fun _ => True) := ⟨fun ρ b hb => ⟨other b (fun e0 => h.mem.store.far r g ρ hlive hg (e0 ▸ hb)), hb⟩, keep, fun _ _ => rfl⟩
  have hrl : r < e.st.length := live_lt hlive
  refine ⟨⟨⟨fun q R0 hq => ?_, fun q q' g' h1 h2 => h.mem.store.inj q q' g' (live_set hr (by simp) h1) (live_set hr (by simp) h2), fun q g' ρ h1 => h.mem.store.far q g' ρ (live_set hr (by simp) h1)⟩, h.mem.os, h.mem.tape, h.mem.output, by simpa using h.mem.size, fun b hb hO => ?_, h.mem.keeps.trans keep, h.mem.dup, h.mem.dfix, h.mem.dnew, fun ρ b hb => (h.mem.thaw ρ b hb).imp_right fun k => k.keeps keep, fun q g' h1 => h.mem.own q g' (live_set hr (by simp) h1), fun ρ b hb => by simpa using h.mem.lt ρ b hb, h.mem.sep, h.mem.hand, by simpa using h.mem.kst⟩, fun i => (h.tm i).mv hmv (fun _ _ => trivial), fun i q hq => by simpa using h.nm i q hq, fun q t' cs y p hq hy hp => ?_, h.dd, h.sz⟩
  · by_cases hqr : r = q
    · subst hqr
      simp [hrl] at hq
      subst hq
      exact ⟨g, es', clk', hg, by simp [hgl], by simpa using hk.1, fun i k x hi => by
        obtain ⟨e0, k1, k2, k3⟩ := hk.2 i k x hi
        exact ⟨e0, by simpa using k1, k2.mono hmv.data, k3.mono hmv.data⟩⟩
    · rw [List.getElem?_set_ne hqr] at hq
      by_cases hgone : R0 = .gone
      · subst hgone; trivial
      exact (h.mem.store.root q R0 hq).mv hmv rfl (fun g' hg' => other g' (fun e0 => hqr (h.mem.store.inj r q g hlive ⟨R0, hq, hgone⟩ hg (e0 ▸ hg')))) (fun _ _ _ _ _ _ _ => trivial)
  · show (W.heap.setIfInBounds g (.map es' clk'))[b]? = _
    rw [other b (fun e0 => by
      subst e0
      rcases h.mem.own r b hlive hg with h1 | h1
      · omega
      · exact hO h1)]
    exact h.mem.frame b hb hO
  · by_cases hqr : r = q
    · subst hqr
      simp [hrl] at hq
    · rw [List.getElem?_set_ne hqr] at hq
      simpa using h.bx q t' cs y p hq hy hp
theorem St.map_update (h : St C sz e a W D β) {t kt et r : Nat} {kv kv' : List (AV × AV)} {v vk vx : Value} {k x : AV} (ht : tyOf P t = .mp kt et) (hr : e.st[r]? = some (.mp kv)) (hv : Rep W D β v (.map r)) (hk : keyOk P kt k = true) (hvk : Rep W D β vk k) (hx : Rep W D β vx x) (hxd : x.isD = true) (hs : kvSet kv k x = some kv') :
    ∃ W', (Instr.mapUpdate t v vk vx).run P W = .ok () W' ∧ St C sz ⟨e.tm, e.st.set r (.mp kv')⟩ a W' D β := by
  have hu := tyOf_mp ht
  obtain ⟨g, es, clk, h1, h2, h3, h4⟩ := h.mem.store.root r _ hr
  cases hv with
  | data _ _ hd => cases hd
  | map _ g' hg =>
  rw [h1] at hg
  injection hg with hg
  subst hg
  obtain ⟨d, hd⟩ := keyOk_under hk
  have hkd := rep_data hvk (keyOk_kind hk)
  have hck := run_checkKey (P := P) (W := W) (v := vk) false hk
  have hgo : (getObj g).run P W = .ok (.map es clk) W := by simp [getObj, Sem.run, h2]
  have hok : KvOk W D es.toList kv := ⟨by simpa using h3, fun i k x hi => by obtain ⟨e0, k1, k2⟩ := h4 i k x hi; exact ⟨e0, by simpa using k1, k2⟩⟩
  rcases kvSet_ok hd hk hkd (hx.toD hxd) clk kv es.toList 0 kv' hok hs with ⟨k1, k2⟩ | ⟨j, e0, k1, k2, k3, k4⟩
  · refine ⟨_, ?_, h.write_map (es' := es.push { key := vk, val := vx, born := clk }) (clk' := clk + 1) hr h1 h2 (by simpa using k2)⟩
    simp [Instr.mapUpdate, run_underlying hu, hgo, hck, Instr.findKey, run_underlying hd, k1, setObj, Sem.run, h2]
  · refine ⟨_, ?_, h.write_map (es' := es.modify j fun e => { e with key := vk, val := vx }) (clk' := clk) hr h1 h2 (by simpa using k4)⟩
    have k2' : es[j]? = some e0 := by simpa using k2
    rw [Nat.zero_add] at k1
    simp [Instr.mapUpdate, run_underlying hu, hgo, hck, Instr.findKey, run_underlying hd, k1, k2', Instr.keyThatStays, k3, setObj, Sem.run, h2]
end
end Go.Ve
namespace Go.Ve
open Go.RowKit
set_option linter.unusedVariables false
set_option linter.unusedSimpArgs false
def AV.ren0 (g : Nat → Nat) : AV → AV
  | .osl r w off len => .osl (g r) w off len
  | .ptr r w i j => .ptr (g r) w i j
  | .map r => .map (g r)
  | .fn _ _ | .agg _ | .tup _ | .gd _ _ => .undef
  | x => x
def AV.ren1 (g : Nat → Nat) : AV → AV
  | .fn f caps => .fn f (caps.map (AV.ren0 g))
  | x => x.ren0 g
def AV.ren2 (g : Nat → Nat) : AV → AV
  | .agg cs => .agg (cs.map (AV.ren1 g))
  | x => x.ren1 g
def AV.ren (g : Nat → Nat) : AV → AV
  | .tup cs => .tup (cs.map (AV.ren2 g))
  | x => x.ren2 g
def Root.ren (g : Nat → Nat) : Root → Root
  | .box t cs => .box t (cs.map (AV.ren1 g))
  | R => R
/-- Handed over: names by position; what is not handed over is not known. -/
def AV.rnp0 (pos : Nat → Option Nat) : AV → AV
  | .osl r w off len => match pos r with
    | some k => .osl k w off len
    | none => .undef
  | .ptr r w i j => match pos r with
    | some k => .ptr k w i j
    | none => .undef
  | .map r => match pos r with
    | some k => .map k
    | none => .undef
  | .fn _ _ | .agg _ | .tup _ | .gd _ _ => .undef
  | x => x
def AV.rnp1 (pos : Nat → Option Nat) : AV → AV
  | .fn f caps => .fn f (caps.map (AV.rnp0 pos))
  | x => x.rnp0 pos
def posOf : List Nat → Nat → Option Nat
  | [], _ => none
  | x :: m, q => if x = q then some 0 else (posOf m q).map (· + 1)
def cvD (st : List Root) (pos : Nat → Option Nat) : AV → Prop × AV
  | .osl r w off len => match pos r with
    | some _ => (True, .undef)
    | none => match st[r]? with
      | some (.row _ w' xs) => (w = w' ∧ off + len ≤ xs.length, .sl 0 w ((xs.drop off).take len))
      | _ => (True, .undef)
  | .ptr _ _ _ _ | .map _ | .fn _ _ | .agg _ | .tup _ | .gd _ _ => (True, .undef)
  | x => (True, x)
def cv0 (st : List Root) (pos : Nat → Option Nat) : AV → Prop × AV
  | .osl r w off len => match pos r with
    | some k => (True, .osl k w off len)
    | none => cvD st pos (.osl r w off len)
  | .ptr r w i j => match pos r with
    | some k => (True, .ptr k w i j)
    | none => match st[r]? with
      | some (.box _ cs) => (i = 0 ∧ ∀ c ∈ cs.drop j, (cvD st pos c).1, .dptr 0 ((cs.drop j).map fun c => (cvD st pos c).2))
      | some (.row _ w' xs) => (w = w' ∧ i < xs.length, .dptr 0 ((nth xs i).cells.drop j))
      | _ => (True, .undef)
  | .map r => match pos r with
    | some k => (True, .map k)
    | none => (True, .undef)
  | x => cvD st pos x
def cv1 (st : List Root) (pos : Nat → Option Nat) : AV → Prop × AV
  | .fn f caps => (∀ c ∈ caps, (cv0 st pos c).1, .fn f (caps.map fun c => (cv0 st pos c).2))
  | x => cv0 st pos x
def cv (st : List Root) (pos : Nat → Option Nat) : AV → Prop × AV
  | .agg cs => (∀ c ∈ cs, (cv1 st pos c).1, .agg (cs.map fun c => (cv1 st pos c).2))
  | x => cv1 st pos x
/-- A call of f enters its body. -/
def Enters (P : Program) (f : FuncId) : Prop := ∀ (args : Array Value) (W : World), (callFunc f args).run P W = .ok (.enter f args) W
def noz (D : Nat → Nat → Prop) : Nat → Nat → Prop := fun ρ b => ρ ≠ 0 ∧ D ρ b
/-- The contract: called with values that represent args, the roots rin handed over, f returns a value that represents res; of memory it turns only what was handed over; rout: the roots handed over, then the new ones. Regions from n on may grow; what comes back leans on no lent memory (region 0). -/
def SatM (P : Program) (n : Nat) (f : FuncId) (rin : List Root) (args : List AV) (rout : List Root) (res : AV) : Prop :=
  Enters P f ∧ ∀ (W : World) (D : Nat → Nat → Prop) (β : Nat → Option Nat) (vs : List Value),
    n ≠ 0 → StoreOk W D β rin → (∀ ρ b, D ρ b → b < W.heap.size) → (∀ ρ ρ' b, D ρ b → D ρ' b → ρ = ρ') →
    (∀ (r t : Nat) (cs : List AV) (y : AV) (q : Nat), rin[r]? = some (Root.box t cs) → y ∈ cs → Names y q → q < rin.length) →
    vs.length = args.length → (∀ (i : Nat) (x : AV), args[i]? = some x → ∃ v, vs[i]? = some v ∧ Rep W D β v x ∧ ∀ q, Names x q → q < rin.length) →
    Calls P f vs.toArray W fun e W' => ∃ v D' β', e = .returned v ∧ MemOk ⟨W, D, fun b => ∃ r, Live rin r ∧ β r = some b, n, β, rin.length⟩ W' D' β' rout ∧
      (∀ r R, rout[r]? = some R → RootOk W' (noz D') β' r R) ∧ (∀ (r t : Nat) (cs : List AV) (y : AV) (q : Nat), rout[r]? = some (Root.box t cs) → y ∈ cs → Names y q → q < rout.length) ∧
      Rep W' (noz D') β' v res ∧ ∀ q, Names res q → q < rout.length
section
variable {W : World} {D D' : Nat → Nat → Prop} {β β' : Nat → Option Nat}
theorem Rep.monoD (h : ∀ ρ b, D ρ b → D' ρ b) {v : Value} {x : AV} (hx : Rep W D β v x) : Rep W D' β v x :=
  hx.mv (ok := fun _ => True) ⟨fun ρ b hb => ⟨rfl, h ρ b hb⟩, Keeps.refl W, fun _ _ => rfl⟩ (fun _ _ => trivial)
theorem OslOk.ren {v : Value} {r r' w off len : Nat} (h : OslOk W β v r w off len) (hr : β' r' = β r) : OslOk W β' v r' w off len := by
  rcases h with ⟨h1, h2⟩ | ⟨g, cap, t, cur, h1, h2⟩
  · exact .inl ⟨hr.trans h1, h2⟩
  · exact .inr ⟨g, cap, t, cur, hr.trans h1, h2⟩
theorem Rep.ren0 {g : Nat → Nat} {v : Value} {x : AV} (h : Rep W D β v x) (hg : ∀ q, Names x q → β' (g q) = β q) : Rep W D β' v (x.ren0 g) := by
  cases h with
  | undef => exact .undef _
  | data _ _ hd =>
    cases hd <;> first | exact .undef _ | (refine .data _ _ ?_; constructor <;> assumption) | skip
  | osl _ r w off len ho => exact .osl _ _ _ _ _ (ho.ren (hg r (.osl ..)))
  | ptr r w i j q hq => exact .ptr _ _ _ _ q ((hg r (.ptr ..)).trans hq)
  | map r q hq => exact .map _ q ((hg r (.map ..)).trans hq)
  | fn => exact .undef _
  | agg => exact .undef _
  | tup => exact .undef _
  | gd => exact .undef _
theorem Rep.ren1 {g : Nat → Nat} {v : Value} {x : AV} (h : Rep W D β v x) (hg : ∀ q, Names x q → β' (g q) = β q) : Rep W D β' v (x.ren1 g) := by
  cases x
  case fn f caps =>
    cases h with
    | data _ _ hd =>
      cases hd with
      | fn _ vs _ u hl hu hr =>
        refine .fn f vs _ u (by simpa using hl) (fun i y hy => ?_) (fun i y hy => ?_)
        all_goals
          rw [List.getElem?_map, Option.map_eq_some_iff] at hy
          obtain ⟨c, hc, rfl⟩ := hy
        · exact hu i c hc
        · exact (Rep.data (β := β) _ _ (hr i c hc)).ren0 (fun q hq => absurd hq (hr i c hc).noNames)
    | fn _ vs _ u hl hu hr =>
      refine .fn f vs _ u (by simpa using hl) (fun i y hy => ?_) (fun i y hy => ?_)
      all_goals
        rw [List.getElem?_map, Option.map_eq_some_iff] at hy
        obtain ⟨c, hc, rfl⟩ := hy
      · exact hu i c hc
      · exact (hr i c hc).ren0 (fun q hq => hg q (.fn f caps c q (List.mem_of_getElem? hc) hq))
  all_goals exact Rep.ren0 (β' := β') (g := g) h hg
theorem Rep.ren2 {g : Nat → Nat} {v : Value} {x : AV} (h : Rep W D β v x) (hg : ∀ q, Names x q → β' (g q) = β q) : Rep W D β' v (x.ren2 g) := by
  cases x
  case agg cs =>
    cases h with
    | data _ _ hd => cases hd
    | agg vs _ u hl hu ho hr =>
      refine .agg vs _ u (by simpa using hl) (fun i y hy => ?_) (fun i y hy => ?_) (fun i y hy => ?_)
      all_goals
        rw [List.getElem?_map, Option.map_eq_some_iff] at hy
        obtain ⟨c, hc, rfl⟩ := hy
      · exact hu i c hc
      · exact ho i c hc
      · exact (hr i c hc).ren1 (fun q hq => hg q (.agg cs c q (List.mem_of_getElem? hc) hq))
  all_goals exact Rep.ren1 (β' := β') (g := g) h hg
theorem Rep.ren {g : Nat → Nat} {v : Value} {x : AV} (h : Rep W D β v x) (hg : ∀ q, Names x q → β' (g q) = β q) : Rep W D β' v (x.ren g) := by
  cases x
  case tup cs =>
    cases h with
    | data _ _ hd => cases hd
    | tup vs _ u hl hu hr =>
      refine .tup vs _ u (by simpa using hl) (fun i y hy => ?_) (fun i y hy => ?_)
      all_goals
        rw [List.getElem?_map, Option.map_eq_some_iff] at hy
        obtain ⟨c, hc, rfl⟩ := hy
      · exact hu i c hc
      · exact (hr i c hc).ren2 (fun q hq => hg q (.tup cs c q (List.mem_of_getElem? hc) hq))
  all_goals exact Rep.ren2 (β' := β') (g := g) h hg
theorem names_ren0 {g : Nat → Nat} {x : AV} {q : Nat} (h : Names (x.ren0 g) q) : ∃ p, Names x p ∧ q = g p := by
  cases x <;> simp only [AV.ren0] at h <;> cases h
  · exact ⟨_, .osl .., rfl⟩
  · exact ⟨_, .ptr .., rfl⟩
  · exact ⟨_, .map .., rfl⟩
theorem names_ren1 {g : Nat → Nat} {x : AV} {q : Nat} (h : Names (x.ren1 g) q) : ∃ p, Names x p ∧ q = g p := by
  cases x
  case fn f caps =>
    cases h with
    | fn _ _ y _ hy hq =>
      obtain ⟨c, hc, rfl⟩ := List.mem_map.1 hy
      obtain ⟨p, hp, rfl⟩ := names_ren0 hq
      exact ⟨p, .fn _ _ c _ hc hp, rfl⟩
  all_goals exact names_ren0 (g := g) h
theorem names_ren2 {g : Nat → Nat} {x : AV} {q : Nat} (h : Names (x.ren2 g) q) : ∃ p, Names x p ∧ q = g p := by
  cases x
  case agg caps =>
    cases h with
    | agg _ y _ hy hq =>
      obtain ⟨c, hc, rfl⟩ := List.mem_map.1 hy
      obtain ⟨p, hp, rfl⟩ := names_ren1 hq
      exact ⟨p, .agg _ c _ hc hp, rfl⟩
  all_goals exact names_ren1 (g := g) h
theorem names_ren {g : Nat → Nat} {x : AV} {q : Nat} (h : Names (x.ren g) q) : ∃ p, Names x p ∧ q = g p := by
  cases x
  case tup caps =>
    cases h with
    | tup _ y _ hy hq =>
      obtain ⟨c, hc, rfl⟩ := List.mem_map.1 hy
      obtain ⟨p, hp, rfl⟩ := names_ren2 hq
      exact ⟨p, .tup _ c _ hc hp, rfl⟩
  all_goals exact names_ren2 (g := g) h
theorem RootOk.ren {g : Nat → Nat} {k : Nat} {R : Root} (h : RootOk W D β k R) (hk : β' (g k) = β k) (hg : ∀ t cs y q, R = .box t cs → y ∈ cs → Names y q → β' (g q) = β q) : RootOk W D β' (g k) (R.ren g) := by
  cases R with
  | gone => trivial
  | row t w xs =>
    rcases h with ⟨h1, h2⟩ | ⟨b, cur, h1, h2⟩
    · exact .inl ⟨hk.trans h1, h2⟩
    · exact .inr ⟨b, cur, hk.trans h1, h2⟩
  | mp kv =>
    obtain ⟨b, es, clk, h1, h2⟩ := h
    exact ⟨b, es, clk, hk.trans h1, h2⟩
  | box t cs =>
    obtain ⟨b, cur, h1, h2, h3, h4⟩ := h
    refine ⟨b, cur, hk.trans h1, h2, by simpa using h3, fun j y hy => ?_⟩
    rw [List.getElem?_map, Option.map_eq_some_iff] at hy
    obtain ⟨c, hc, rfl⟩ := hy
    obtain ⟨u, u1, u2, u3⟩ := h4 j c hc
    exact ⟨u, u1, u2, u3.ren1 (fun q hq => hg t cs c q rfl (List.mem_of_getElem? hc) hq)⟩
theorem ren_box {g : Nat → Nat} {R : Root} {t : Nat} {cs : List AV} (h : R.ren g = .box t cs) : ∃ cs0, R = .box t cs0 ∧ cs = cs0.map (AV.ren1 g) := by
  cases R <;> simp [Root.ren] at h
  obtain ⟨rfl, rfl⟩ := h
  exact ⟨_, rfl, rfl⟩
theorem posOf_some {m : List Nat} {q k : Nat} (h : posOf m q = some k) : m[k]? = some q := by
  induction m generalizing k with
  | nil => cases h
  | cons x m ih =>
    simp only [posOf] at h
    split at h
    · rename_i hx; injection h with h; subst h; subst hx; rfl
    · rw [Option.map_eq_some_iff] at h
      obtain ⟨k', hk, rfl⟩ := h
      simpa using ih hk
theorem posOf_nodup {m : List Nat} (hm : m.Nodup) {k q : Nat} (h : m[k]? = some q) : posOf m q = some k := by
  induction m generalizing k with
  | nil => simp at h
  | cons x m ih =>
    rw [List.nodup_cons] at hm
    cases k with
    | zero => simp at h; subst h; simp [posOf]
    | succ k =>
      simp at h
      have hx : ¬ x = q := fun e => hm.1 (e ▸ List.mem_of_getElem? h)
      simp [posOf, hx, ih hm.2 h]
/-- Everything that is not handed over is lent. -/
def lent (D : Nat → Nat → Prop) (β : Nat → Option Nat) (st : List Root) (pos : Nat → Option Nat) : Nat → Nat → Prop := fun ρ b => D ρ b ∨ (ρ = 0 ∧ ∃ r, Live st r ∧ pos r = none ∧ β r = some b)
def handβ (β : Nat → Option Nat) (m : List Nat) : Nat → Option Nat := fun k => (m[k]?).bind β
variable {st : List Root} {m : List Nat}
theorem cvD_ok {v : Value} {x : AV} (hs : ∀ r R, st[r]? = some R → RootOk W D β r R) (h : Rep W D β v x) (ho : v.oneCell' = true) (hc : (cvD st (posOf m) x).1) : RepD W (lent D β st (posOf m)) v (cvD st (posOf m) x).2 := by
  have up : ∀ ρ b, D ρ b → lent D β st (posOf m) ρ b := fun ρ b hb => .inl hb
  have hmv : Mv W W D (lent D β st (posOf m)) β β (fun _ => True) := ⟨fun ρ b hb => ⟨rfl, up ρ b hb⟩, Keeps.refl W, fun _ _ => rfl⟩
  cases x
  case osl r w off len =>
    simp only [cvD] at hc ⊢
    cases hp : posOf m r with
    | some k => exact .undef _ ho
    | none =>
      simp only [hp] at hc ⊢
      cases hr : st[r]? with
      | none => exact .undef _ ho
      | some R =>
        cases R with
        | row t w' xs =>
          simp only [hr] at hc ⊢
          obtain ⟨rfl, hl⟩ := hc
          exact osl_data (t := t) ((hs r _ hr).mv hmv rfl (fun _ _ => rfl) (fun _ _ _ _ _ _ _ => trivial)) (fun g hg => .inr ⟨rfl, r, ⟨_, hr, by simp⟩, hp, hg⟩) (h.mv hmv (fun _ _ => trivial)) hl
        | gone => exact .undef _ ho
        | box t cs => exact .undef _ ho
        | mp kv => exact .undef _ ho
  all_goals first
    | exact .undef _ ho
    | (cases h with
       | data _ _ hd => exact hd.mono (fun ρ b hb => ⟨rfl, up ρ b hb⟩)
       | undef => exact .undef _ ho)
    | (cases h with
       | data _ _ hd => exact hd.mono (fun ρ b hb => ⟨rfl, up ρ b hb⟩))
theorem handβ_pos {q k : Nat} (h : posOf m q = some k) : handβ β m k = β q := by simp [handβ, posOf_some h]
theorem cvD_leaf {v : Value} {x : AV} (hx : ∀ r w off len, x ≠ .osl r w off len) (h : Rep W D β v x) : Rep W (lent D β st (posOf m)) (handβ β m) v (cvD st (posOf m) x).2 := by
  have up : ∀ ρ b, D ρ b → lent D β st (posOf m) ρ b := fun ρ b hb => .inl hb
  cases x <;> first
    | exact absurd rfl (hx _ _ _ _)
    | exact .undef _
    | (cases h with
       | data _ _ hd => exact .data _ _ (hd.mono (fun ρ b hb => ⟨rfl, up ρ b hb⟩))
       | undef => exact .undef _)
    | (cases h with
       | data _ _ hd => exact .data _ _ (hd.mono (fun ρ b hb => ⟨rfl, up ρ b hb⟩)))
theorem cv0_ok {v : Value} {x : AV} (hs : ∀ r R, st[r]? = some R → RootOk W D β r R) (h : Rep W D β v x) (hc : (cv0 st (posOf m) x).1) : Rep W (lent D β st (posOf m)) (handβ β m) v (cv0 st (posOf m) x).2 := by
  have up : ∀ ρ b, D ρ b → lent D β st (posOf m) ρ b := fun ρ b hb => .inl hb
  have hmv : Mv W W D (lent D β st (posOf m)) β β (fun _ => True) := ⟨fun ρ b hb => ⟨rfl, up ρ b hb⟩, Keeps.refl W, fun _ _ => rfl⟩
  cases x
  case osl r w off len =>
    simp only [cv0] at hc ⊢
    cases hp : posOf m r with
    | some k =>
      simp only [hp] at hc ⊢
      cases h with
      | data _ _ hd => cases hd
      | osl _ _ _ _ _ ho => exact .osl _ _ _ _ _ (ho.ren (handβ_pos hp))
    | none =>
      simp only [hp] at hc ⊢
      have ho : v.oneCell' = true := h.oneCell rfl
      exact .data _ _ (cvD_ok hs h ho hc)
  case ptr r w i j =>
    simp only [cv0] at hc ⊢
    cases hp : posOf m r with
    | some k =>
      cases h with
      | data _ _ hd => cases hd
      | ptr _ _ _ _ g hg => exact .ptr _ _ _ _ g ((handβ_pos hp).trans hg)
    | none =>
      simp only [hp] at hc ⊢
      cases hr : st[r]? with
      | none => exact .undef _
      | some R =>
        cases R with
        | gone => exact .undef _
        | mp kv => exact .undef _
        | box t cs =>
          simp only [hr] at hc ⊢
          obtain ⟨rfl, hc⟩ := hc
          obtain ⟨g, off, rfl, hb⟩ := behind_ok (st := st) hs h (by simp [behind, hr])
          simp only [behind, hr] at hb
          obtain ⟨g', cur, h1, h2, _⟩ := hs r _ hr
          have hgg : g = g' := by
            cases h with
            | data _ _ hd => cases hd
            | ptr _ _ _ _ g0 hg0 => rw [h1] at hg0; injection hg0 with hg0; exact hg0.symm
          subst hgg
          refine .data _ _ (.dptr _ 0 _ (fun k => (W.cell? ⟨g, off + k, none⟩).getD undef) rfl (.inr ⟨rfl, r, ⟨_, hr, by simp⟩, hp, h1⟩) (fun k y hy => ?_) (fun k y hy => ?_))
          all_goals
            rw [List.getElem?_map, Option.map_eq_some_iff] at hy
            obtain ⟨c, hc1, rfl⟩ := hy
            obtain ⟨u, u1, u2, u3⟩ := hb k c hc1
          · simp [u1]
          · simp only [u1, Option.getD_some]
            exact cvD_ok hs u3 u2 (hc c (List.mem_of_getElem? hc1))
        | row t w' xs =>
          simp only [hr] at hc ⊢
          obtain ⟨rfl, hi⟩ := hc
          rcases hs r _ hr with ⟨_, rfl⟩ | ⟨g, cur, h1, h2, h3⟩
          · simp at hi
          cases h with
          | data _ _ hd => cases hd
          | ptr _ _ _ _ g0 hg0 =>
            rw [h1] at hg0; injection hg0 with hg0; subst hg0
            obtain ⟨k1, k2⟩ := h3 i _ (nth_some hi)
            refine .data _ _ (.dptr _ 0 _ (fun k => (cur[i * w + (j + k)]?).getD undef) rfl (.inr ⟨rfl, r, ⟨_, hr, by simp⟩, hp, h1⟩) (fun k y hy => ?_) (fun k y hy => ?_))
            all_goals
              rw [List.getElem?_drop] at hy
              obtain ⟨u, u1, u2⟩ := k2 _ y hy
            · rw [cell_of_row W g _ cur t (0, 0) h2, Nat.add_assoc, u1]; rfl
            · simp only [u1, Option.getD_some]
              exact u2.mono (fun ρ b hb => ⟨rfl, up ρ b hb⟩)
  case map r =>
    simp only [cv0] at hc ⊢
    cases hp : posOf m r with
    | some k =>
      cases h with
      | data _ _ hd => cases hd
      | map _ g hg => exact .map _ g ((handβ_pos hp).trans hg)
    | none => exact .undef _
  all_goals
    refine cvD_leaf ?_ h
    intro _ _ _ _ e
    cases e
theorem cv1_ok {v : Value} {x : AV} (hs : ∀ r R, st[r]? = some R → RootOk W D β r R) (h : Rep W D β v x) (hc : (cv1 st (posOf m) x).1) : Rep W (lent D β st (posOf m)) (handβ β m) v (cv1 st (posOf m) x).2 := by
  cases x
  case fn f caps =>
    simp only [cv1] at hc ⊢
    have go : ∀ (vs : Array Value) (u : Nat → Value), vs.size = caps.length → (∀ (i : Nat) (y : AV), caps[i]? = some y → vs[i]? = some (u i)) → (∀ (i : Nat) (y : AV), caps[i]? = some y → Rep W D β (u i) y) → Rep W (lent D β st (posOf m)) (handβ β m) (.func (.func f) #[] vs) (.fn f (caps.map fun c => (cv0 st (posOf m) c).2)) := by
      intro vs u hl hu hr
      refine .fn f vs _ u (by simpa using hl) (fun i y hy => ?_) (fun i y hy => ?_)
      all_goals
        rw [List.getElem?_map, Option.map_eq_some_iff] at hy
        obtain ⟨c, hc1, rfl⟩ := hy
      · exact hu i c hc1
      · exact cv0_ok hs (hr i c hc1) (hc c (List.mem_of_getElem? hc1))
    cases h with
    | data _ _ hd => cases hd with | fn _ vs _ u hl hu hr => exact go vs u hl hu (fun i y hy => .data _ _ (hr i y hy))
    | fn _ vs _ u hl hu hr => exact go vs u hl hu hr
  all_goals exact cv0_ok hs h hc
theorem cv_ok {v : Value} {x : AV} (hs : ∀ r R, st[r]? = some R → RootOk W D β r R) (h : Rep W D β v x) (hc : (cv st (posOf m) x).1) : Rep W (lent D β st (posOf m)) (handβ β m) v (cv st (posOf m) x).2 := by
  cases x
  case agg cs =>
    simp only [cv] at hc ⊢
    cases h with
    | data _ _ hd => cases hd
    | agg vs _ u hl hu ho hr =>
      refine .agg vs _ u (by simpa using hl) (fun i y hy => ?_) (fun i y hy => ?_) (fun i y hy => ?_)
      all_goals
        rw [List.getElem?_map, Option.map_eq_some_iff] at hy
        obtain ⟨c, hc1, rfl⟩ := hy
      · exact hu i c hc1
      · exact ho i c hc1
      · exact cv1_ok hs (hr i c hc1) (hc c (List.mem_of_getElem? hc1))
  all_goals exact cv1_ok hs h hc
/-- What an argument names was handed over. -/
theorem cvD_names {x : AV} {q : Nat} : ¬ Names (cvD st (posOf m) x).2 q := by
  intro h
  unfold cvD at h
  split at h
  · split at h
    · cases h
    · split at h <;> cases h
  all_goals first
    | (cases h; done)
    | skip
  rename_i h1 h2 h3 h4 h5 h6 h7
  cases x <;> first
    | (cases h; done)
    | exact (h1 _ _ _ _ rfl).elim
    | exact (h2 _ _ _ _ rfl).elim
    | exact (h3 _ rfl).elim
    | exact (h4 _ _ rfl).elim
    | exact (h5 _ rfl).elim
    | exact (h6 _ rfl).elim
    | exact (h7 _ _ rfl).elim
theorem posOf_lt {q k : Nat} (h : posOf m q = some k) : k < m.length := (List.getElem?_eq_some_iff.1 (posOf_some h)).1
theorem cv0_names {x : AV} {q : Nat} (h : Names (cv0 st (posOf m) x).2 q) : q < m.length := by
  cases x <;> simp only [cv0] at h
  case osl r w off len =>
    cases hp : posOf m r with
    | some k => simp only [hp] at h; cases h; exact posOf_lt hp
    | none => simp only [hp] at h; exact absurd h cvD_names
  case ptr r w i j =>
    cases hp : posOf m r with
    | some k => simp only [hp] at h; cases h; exact posOf_lt hp
    | none =>
      simp only [hp] at h
      split at h <;> cases h
  case map r =>
    cases hp : posOf m r with
    | some k => simp only [hp] at h; cases h; exact posOf_lt hp
    | none => simp only [hp] at h; cases h
  all_goals exact absurd h cvD_names
theorem cv1_names {x : AV} {q : Nat} (h : Names (cv1 st (posOf m) x).2 q) : q < m.length := by
  cases x
  case fn f caps =>
    cases h with
    | fn _ _ y _ hy hq => obtain ⟨c, _, rfl⟩ := List.mem_map.1 hy; exact cv0_names hq
  all_goals exact cv0_names h
theorem cv_names {x : AV} {q : Nat} (h : Names (cv st (posOf m) x).2 q) : q < m.length := by
  cases x
  case agg cs =>
    cases h with
    | agg _ y _ hy hq => obtain ⟨c, _, rfl⟩ := List.mem_map.1 hy; exact cv1_names hq
  all_goals exact cv1_names h
end
end Go.Ve
namespace Go.Ve
open Go.RowKit
set_option linter.unusedVariables false
set_option linter.unusedSimpArgs false
def Root.rnp (pos : Nat → Option Nat) : Root → Root
  | .box t cs => .box t (cs.map (AV.rnp1 pos))
  | R => R
/-- The roots handed over, as the callee sees them. -/
def rinOf (st : List Root) (m : List Nat) : List Root := m.map fun r => (st.getD r .gone).rnp (posOf m)
/-- The callee's names of roots, as the caller's. -/
def gmap (m : List Nat) (L k : Nat) : Nat :=
  match m[k]? with
  | some q => q
  | none => L + (k - m.length)
def putAll (st : List Root) (m : List Nat) (rout : List Root) (g : Nat → Nat) (k : Nat) : List Root :=
  match m with
  | [] => st
  | r :: m => putAll (st.set r ((rout.getD k .gone).ren g)) m rout g (k + 1)
def stOf (st : List Root) (m : List Nat) (rout : List Root) : List Root := putAll st m rout (gmap m st.length) 0 ++ (rout.drop m.length).map (Root.ren (gmap m st.length))
theorem putAll_length (m : List Nat) : ∀ (st : List Root) (rout : List Root) (g : Nat → Nat) (k : Nat), (putAll st m rout g k).length = st.length := by
  induction m with
  | nil => intros; rfl
  | cons r m ih => intro st rout g k; simp only [putAll]; rw [ih]; simp
theorem putAll_get (m : List Nat) : ∀ (st : List Root) (rout : List Root) (g : Nat → Nat) (k q : Nat), m.Nodup → (∀ r ∈ m, r < st.length) →
    (putAll st m rout g k)[q]? = match posOf m q with | some j => some ((rout.getD (k + j) .gone).ren g) | none => st[q]? := by
  induction m with
  | nil => intros; rfl
  | cons r m ih =>
    intro st rout g k q hn hl
    rw [List.nodup_cons] at hn
    simp only [putAll, posOf]
    rw [ih _ _ _ _ _ hn.2 (fun x hx => by simpa using hl x (List.mem_cons_of_mem _ hx))]
    by_cases hq : r = q
    · subst hq
      have hnone : posOf m r = none := by
        cases hp : posOf m r with
        | none => rfl
        | some j => exact absurd (List.mem_of_getElem? (posOf_some hp)) hn.1
      simp only [hnone, if_true, Nat.add_zero]
      rw [List.getElem?_set_self (hl r (List.mem_cons_self ..))]
    · simp only [if_neg hq]
      cases hp : posOf m q with
      | none => simp only [Option.map_none]; rw [List.getElem?_set_ne hq]
      | some j => simp only [Option.map_some]; congr 3; omega
section
variable {W : World} {D D' : Nat → Nat → Prop} {β β' : Nat → Option Nat} {st : List Root} {m : List Nat}
theorem rnp0_ok {v : Value} {x : AV} (hD : ∀ ρ b, D ρ b → D' ρ b) (h : Rep W D β v x) : Rep W D' (handβ β m) v (x.rnp0 (posOf m)) := by
  cases x
  case osl r w off len =>
    simp only [AV.rnp0]
    cases hp : posOf m r with
    | none => exact .undef _
    | some k =>
      cases h with
      | data _ _ hd => cases hd
      | osl _ _ _ _ _ ho => exact .osl _ _ _ _ _ (ho.ren (handβ_pos hp))
  case ptr r w i j =>
    simp only [AV.rnp0]
    cases hp : posOf m r with
    | none => exact .undef _
    | some k =>
      cases h with
      | data _ _ hd => cases hd
      | ptr _ _ _ _ g hg => exact .ptr _ _ _ _ g ((handβ_pos hp).trans hg)
  case map r =>
    simp only [AV.rnp0]
    cases hp : posOf m r with
    | none => exact .undef _
    | some k =>
      cases h with
      | data _ _ hd => cases hd
      | map _ g hg => exact .map _ g ((handβ_pos hp).trans hg)
  all_goals first
    | exact .undef _
    | (cases h with
       | data _ _ hd => exact .data _ _ (hd.mono (fun ρ b hb => ⟨rfl, hD ρ b hb⟩))
       | undef => exact .undef _)
    | (cases h with
       | data _ _ hd => exact .data _ _ (hd.mono (fun ρ b hb => ⟨rfl, hD ρ b hb⟩)))
theorem rnp1_ok {v : Value} {x : AV} (hD : ∀ ρ b, D ρ b → D' ρ b) (h : Rep W D β v x) : Rep W D' (handβ β m) v (x.rnp1 (posOf m)) := by
  cases x
  case fn f caps =>
    have go : ∀ (vs : Array Value) (u : Nat → Value), vs.size = caps.length → (∀ (i : Nat) (y : AV), caps[i]? = some y → vs[i]? = some (u i)) → (∀ (i : Nat) (y : AV), caps[i]? = some y → Rep W D β (u i) y) → Rep W D' (handβ β m) (.func (.func f) #[] vs) (.fn f (caps.map (AV.rnp0 (posOf m)))) := by
      intro vs u hl hu hr
      refine .fn f vs _ u (by simpa using hl) (fun i y hy => ?_) (fun i y hy => ?_)
      all_goals
        rw [List.getElem?_map, Option.map_eq_some_iff] at hy
        obtain ⟨c, hc1, rfl⟩ := hy
      · exact hu i c hc1
      · exact rnp0_ok hD (hr i c hc1)
    cases h with
    | data _ _ hd => cases hd with | fn _ vs _ u hl hu hr => exact go vs u hl hu (fun i y hy => .data _ _ (hr i y hy))
    | fn _ vs _ u hl hu hr => exact go vs u hl hu hr
  all_goals exact rnp0_ok hD h
theorem rnp0_names {x : AV} {q : Nat} (h : Names (x.rnp0 (posOf m)) q) : q < m.length := by
  cases x <;> simp only [AV.rnp0] at h
  case osl r w off len =>
    cases hp : posOf m r with
    | some k => simp only [hp] at h; cases h; exact posOf_lt hp
    | none => simp only [hp] at h; cases h
  case ptr r w i j =>
    cases hp : posOf m r with
    | some k => simp only [hp] at h; cases h; exact posOf_lt hp
    | none => simp only [hp] at h; cases h
  case map r =>
    cases hp : posOf m r with
    | some k => simp only [hp] at h; cases h; exact posOf_lt hp
    | none => simp only [hp] at h; cases h
  all_goals cases h
theorem rnp1_names {x : AV} {q : Nat} (h : Names (x.rnp1 (posOf m)) q) : q < m.length := by
  by_cases hx : ∃ f caps, x = .fn f caps
  · obtain ⟨f, caps, rfl⟩ := hx
    cases h with
    | fn _ _ y _ hy hq => obtain ⟨c, _, rfl⟩ := List.mem_map.1 hy; exact rnp0_names hq
  · have e : x.rnp1 (posOf m) = x.rnp0 (posOf m) := by
      cases x <;> first | rfl | exact absurd ⟨_, _, rfl⟩ hx
    rw [e] at h
    exact rnp0_names h
theorem rinOf_get {k : Nat} {R : Root} (h : (rinOf st m)[k]? = some R) : ∃ q, m[k]? = some q ∧ R = (st.getD q .gone).rnp (posOf m) := by
  simp only [rinOf, List.getElem?_map, Option.map_eq_some_iff] at h
  obtain ⟨q, h1, h2⟩ := h
  exact ⟨q, h1, h2.symm⟩
theorem rinOf_live {k : Nat} (h : Live (rinOf st m) k) : ∃ q, m[k]? = some q ∧ Live st q := by
  obtain ⟨R, h1, h2⟩ := h
  obtain ⟨q, h3, rfl⟩ := rinOf_get h1
  refine ⟨q, h3, ?_⟩
  rw [List.getD_eq_getElem?_getD] at h2
  cases hq : st[q]? with
  | none => simp [hq, Root.rnp] at h2
  | some R0 =>
    refine ⟨R0, hq, fun e => ?_⟩
    subst e
    simp [hq, Root.rnp] at h2
end
section
variable {P : Program} {C : Ctx} {sz : Nat} {e : Env} {a : Act} {W : World} {D : Nat → Nat → Prop} {β : Nat → Option Nat}
theorem St.call (h : St C sz e a W D β) {n : Nat} {f : FuncId} {m : List Nat} {sargs : List AV} {rout : List Root} {res : AV} {vs : List Value} (hC : C.n ≠ 0) (hn : C.n ≤ n) (hm : m.Nodup) (hml : ∀ r ∈ m, r < e.st.length)
    (hs : SatM P n f (rinOf e.st m) sargs rout res) (hlen : vs.length = sargs.length)
    (hargs : ∀ (i : Nat) (x : AV), sargs[i]? = some x → ∃ v, vs[i]? = some v ∧ Rep W (lent D β e.st (posOf m)) (handβ β m) v x ∧ ∀ q, Names x q → q < m.length) :
    Calls P f vs.toArray W fun e' W' => ∃ v D' β', e' = .returned v ∧ St C sz ⟨e.tm, stOf e.st m rout⟩ a W' D' β' ∧ Rep W' D' β' v (res.ren (gmap m e.st.length)) ∧ (∀ q, Names (res.ren (gmap m e.st.length)) q → q < (stOf e.st m rout).length) ∧ (rout = [] → Rep W' D' β' v res ∧ ∀ q, ¬ Names res q) := by
  have up : ∀ ρ b, D ρ b → lent D β e.st (posOf m) ρ b := fun ρ b hb => .inl hb
  have hrl : (rinOf e.st m).length = m.length := by simp [rinOf]
  have hblk := @block_lt W D β e.st h.mem.store.root
  have hlt : ∀ ρ b, lent D β e.st (posOf m) ρ b → b < W.heap.size := by
    rintro ρ b (hb | ⟨_, r, h1, _, h3⟩)
    · exact h.mem.lt ρ b hb
    · exact hblk h1 h3
  have hsep : ∀ ρ ρ' b, lent D β e.st (posOf m) ρ b → lent D β e.st (posOf m) ρ' b → ρ = ρ' := by
    rintro ρ ρ' b (hb | ⟨h0, r, h1, h2, h3⟩) (hb' | ⟨h0', r', h1', h2', h3'⟩)
    · exact h.mem.sep ρ ρ' b hb hb'
    · exact (h.mem.store.far r' b ρ h1' h3' hb).elim
    · exact (h.mem.store.far r b ρ' h1 h3 hb').elim
    · rw [h0, h0']
  have hstore : StoreOk W (lent D β e.st (posOf m)) (handβ β m) (rinOf e.st m) := by
    refine ⟨fun k R hk => ?_, fun k k' g h1 h2 h3 h4 => ?_, fun k g ρ h1 h2 h3 => ?_⟩
    · obtain ⟨q, hq, rfl⟩ := rinOf_get hk
      have hqb : handβ β m k = β q := by simp [handβ, hq]
      have hql := hml q (List.mem_of_getElem? hq)
      rw [List.getD_eq_getElem?_getD, List.getElem?_eq_getElem hql, Option.getD_some]
      have hR := h.mem.store.root q _ (List.getElem?_eq_getElem hql)
      generalize e.st[q] = R0 at hR
      cases R0 with
      | gone => trivial
      | row t w xs =>
        rcases hR with ⟨k1, k2⟩ | ⟨g, cur, k1, k2, k3⟩
        · exact .inl ⟨hqb.trans k1, k2⟩
        · exact .inr ⟨g, cur, hqb.trans k1, k2, fun i x hx => ⟨(k3 i x hx).1, fun j y hy => let ⟨u, u1, u2⟩ := (k3 i x hx).2 j y hy; ⟨u, u1, u2.mono (fun ρ b hb => ⟨rfl, up ρ b hb⟩)⟩⟩⟩
      | mp kv =>
        obtain ⟨g, es, clk, k1, k2, k3, k4⟩ := hR
        exact ⟨g, es, clk, hqb.trans k1, k2, k3, fun i k x hx => let ⟨e0, u1, u2, u3⟩ := k4 i k x hx; ⟨e0, u1, u2.mono (fun ρ b hb => ⟨rfl, up ρ b hb⟩), u3.mono (fun ρ b hb => ⟨rfl, up ρ b hb⟩)⟩⟩
      | box t cs =>
        obtain ⟨g, cur, k1, k2, k3, k4⟩ := hR
        refine ⟨g, cur, hqb.trans k1, k2, by simpa using k3, fun j y hy => ?_⟩
        rw [List.getElem?_map, Option.map_eq_some_iff] at hy
        obtain ⟨c, hc, rfl⟩ := hy
        obtain ⟨u, u1, u2, u3⟩ := k4 j c hc
        exact ⟨u, u1, u2, rnp1_ok up u3⟩
    · obtain ⟨q, q1, q2⟩ := rinOf_live h1
      obtain ⟨q', q1', q2'⟩ := rinOf_live h2
      have e1 : β q = some g := by simpa [handβ, q1] using h3
      have e2 : β q' = some g := by simpa [handβ, q1'] using h4
      have := h.mem.store.inj q q' g q2 q2' e1 e2
      subst this
      have := posOf_nodup hm q1
      rw [posOf_nodup hm q1'] at this
      injection this with this
      exact this.symm
    · obtain ⟨q, q1, q2⟩ := rinOf_live h1
      have e1 : β q = some g := by simpa [handβ, q1] using h2
      rcases h3 with h3 | ⟨_, r, r1, r2, r3⟩
      · exact h.mem.store.far q g ρ q2 e1 h3
      · have := h.mem.store.inj q r g q2 r1 e1 r3
        subst this
        rw [posOf_nodup hm q1] at r2
        cases r2
  have hbox : ∀ (r t : Nat) (cs : List AV) (y : AV) (q : Nat), (rinOf e.st m)[r]? = some (Root.box t cs) → y ∈ cs → Names y q → q < (rinOf e.st m).length := by
    intro k t cs y q hk hy hq
    rw [hrl]
    obtain ⟨p, _, hR⟩ := rinOf_get hk
    generalize e.st.getD p .gone = R0 at hR
    cases R0 <;> simp [Root.rnp] at hR
    obtain ⟨_, rfl⟩ := hR
    obtain ⟨c, _, rfl⟩ := List.mem_map.1 hy
    exact rnp1_names hq
  refine (hs.2 W (lent D β e.st (posOf m)) (handβ β m) vs (by omega) hstore hlt hsep hbox hlen (fun i x hx => by rw [hrl]; exact hargs i x hx)).mono ?_
  rintro e' W' ⟨v, D', β', rfl, hM, hrt, hbx, hres, hrn⟩
  -- the caller's regions and blocks, behind the call
  let D2 : Nat → Nat → Prop := fun ρ b => if ρ = 0 then D 0 b else D' ρ b
  let β2 : Nat → Option Nat := fun q => if q < e.st.length then β q else β' (q - e.st.length + m.length)
  have hmr : m.length ≤ rout.length := by have := hM.kst; rw [hrl] at this; exact this
  have old : ∀ q, q < e.st.length → β2 q = β q := fun q hq => by simp only [β2]; rw [if_pos hq]
  have hb2 : ∀ k, k < rout.length → β2 (gmap m e.st.length k) = β' k := by
    intro k hk
    unfold gmap
    cases hq : m[k]? with
    | some q =>
      have hql := hml q (List.mem_of_getElem? hq)
      simp only []
      rw [old q hql, hM.hand k (by rw [hrl]; exact (List.getElem?_eq_some_iff.1 hq).1)]
      simp [handβ, hq]
    | none =>
      have hkm : m.length ≤ k := by
        rcases Nat.lt_or_ge k m.length with h0 | h0
        · rw [List.getElem?_eq_getElem h0] at hq; cases hq
        · exact h0
      simp only [β2]
      rw [if_neg (by omega)]
      congr 1; omega
  have d2 : ∀ ρ b, noz D' ρ b → D2 ρ b := fun ρ b hb => by simp only [D2]; rw [if_neg hb.1]; exact hb.2
  have dD : ∀ ρ b, D ρ b → D2 ρ b := fun ρ b hb => by
    simp only [D2]
    split
    · rename_i h0; subst h0; exact hb
    · exact hM.dup ρ b (up ρ b hb)
  -- old memory
  have oldb : ∀ b, b < W.heap.size → ¬ (∃ r, Live (rinOf e.st m) r ∧ handβ β m r = some b) → W'.heap[b]? = W.heap[b]? := fun b hb hO => hM.frame b hb hO
  have notO : ∀ q g, Live e.st q → posOf m q = none → β q = some g → ¬ (∃ r, Live (rinOf e.st m) r ∧ handβ β m r = some g) := by
    rintro q g h1 h2 h3 ⟨k, k1, k2⟩
    obtain ⟨p, p1, p2⟩ := rinOf_live k1
    have : β p = some g := by simpa [handβ, p1] using k2
    have := h.mem.store.inj q p g h1 p2 h3 this
    subst this
    rw [posOf_nodup hm p1] at h2
    cases h2
  have Oown : ∀ b, (∃ r, Live (rinOf e.st m) r ∧ handβ β m r = some b) → ∃ q, Live e.st q ∧ β q = some b ∧ q ∈ m := by
    rintro b ⟨k, k1, k2⟩
    obtain ⟨p, p1, p2⟩ := rinOf_live k1
    exact ⟨p, p2, by simpa [handβ, p1] using k2, List.mem_of_getElem? p1⟩
  have hmv : Mv W W' D D2 β β2 (· < e.st.length) := ⟨fun ρ b hb => ⟨oldb b (h.mem.lt ρ b hb) (fun hO => by
      obtain ⟨q, q1, q2, _⟩ := Oown b hO
      exact h.mem.store.far q b ρ q1 q2 hb), dD ρ b hb⟩, hM.keeps, old⟩
  have hlen2 : (stOf e.st m rout).length = e.st.length + (rout.length - m.length) := by
    simp [stOf, putAll_length]
  have gm_lt : ∀ k, k < rout.length → gmap m e.st.length k < (stOf e.st m rout).length := by
    intro k hk
    rw [hlen2]
    unfold gmap
    cases hq : m[k]? with
    | some q => have := hml q (List.mem_of_getElem? hq); simp only []; omega
    | none =>
      have hkm : m.length ≤ k := by
        rcases Nat.lt_or_ge k m.length with h0 | h0
        · rw [List.getElem?_eq_getElem h0] at hq; cases hq
        · exact h0
      simp only []
      omega
  -- the roots behind the call
  have look : ∀ q R, (stOf e.st m rout)[q]? = some R → (q < e.st.length ∧ posOf m q = none ∧ e.st[q]? = some R) ∨ ∃ k R0, k < rout.length ∧ rout[k]? = some R0 ∧ q = gmap m e.st.length k ∧ R = R0.ren (gmap m e.st.length) := by
    intro q R hq
    unfold stOf at hq
    by_cases hql : q < e.st.length
    · rw [List.getElem?_append_left (by rw [putAll_length]; exact hql), putAll_get m _ _ _ _ _ hm hml] at hq
      cases hp : posOf m q with
      | none => simp only [hp] at hq; exact .inl ⟨hql, rfl, hq⟩
      | some j =>
        simp only [hp, Nat.zero_add, Option.some.injEq] at hq
        have hj := posOf_lt hp
        have hjr : j < rout.length := by omega
        refine .inr ⟨j, rout[j], hjr, List.getElem?_eq_getElem hjr, ?_, ?_⟩
        · simp [gmap, posOf_some hp]
        · rw [← hq, List.getD_eq_getElem?_getD, List.getElem?_eq_getElem hjr]; rfl
    · rw [List.getElem?_append_right (by rw [putAll_length]; omega), putAll_length, List.getElem?_map, Option.map_eq_some_iff] at hq
      obtain ⟨R0, hR0, rfl⟩ := hq
      rw [List.getElem?_drop] at hR0
      have hk := (List.getElem?_eq_some_iff.1 hR0).1
      refine .inr ⟨_, R0, hk, hR0, ?_, rfl⟩
      unfold gmap
      rw [List.getElem?_eq_none (by omega)]
      simp only []
      omega
  have live2 : ∀ q, Live (stOf e.st m rout) q → (q < e.st.length ∧ posOf m q = none ∧ Live e.st q) ∨ ∃ k, Live rout k ∧ q = gmap m e.st.length k := by
    rintro q ⟨R, h1, h2⟩
    rcases look q R h1 with ⟨k1, k2, k3⟩ | ⟨k, R0, k1, k2, k3, rfl⟩
    · exact .inl ⟨k1, k2, R, k3, h2⟩
    · exact .inr ⟨k, ⟨R0, k2, fun e0 => h2 (by subst e0; rfl)⟩, k3⟩
  refine ⟨v, D2, β2, rfl, ⟨⟨⟨fun q R hq => ?_, fun q q' g h1 h2 h3 h4 => ?_, fun q g ρ h1 h2 h3 => ?_⟩, hM.os.trans h.mem.os, hM.tape.trans h.mem.tape, hM.output.trans h.mem.output, Nat.le_trans h.mem.size hM.size, fun b hb hO => ?_, h.mem.keeps.trans hM.keeps, fun ρ b hb => dD ρ b (h.mem.dup ρ b hb), fun ρ b hρ hb => ?_, fun ρ b hb => ?_, fun ρ b hb => ?_, fun q g h1 h2 => ?_, fun ρ b hb => ?_, fun ρ ρ' b h1 h2 => ?_, fun r hr => ?_, ?_⟩, fun i => (h.tm i).mv hmv (fun q hq => h.nm i q hq), fun i q hq => ?_, fun q t cs y p hq hy hp => ?_, h.dd, h.sz⟩, ?_, fun q hq => ?_, fun hn0 => ?_⟩
  · -- roots
    rcases look q R hq with ⟨k1, k2, k3⟩ | ⟨k, R0, k1, k2, rfl, rfl⟩
    · by_cases hgone : R = .gone
      · subst hgone; trivial
      exact (h.mem.store.root q R k3).mv hmv (old q k1) (fun g hg => oldb g (hblk ⟨R, k3, hgone⟩ hg) (notO q g ⟨R, k3, hgone⟩ k2 hg)) (fun t cs y p hR hy hp => h.bx q t cs y p (hR ▸ k3) hy hp)
    · have h1 := (hrt k R0 k2).ren (g := gmap m e.st.length) (β' := β2) (hb2 k k1) (fun t cs y p hR hy hp => hb2 p (hbx k t cs y p (hR ▸ k2) hy hp))
      exact h1.mv (ok := fun _ => True) ⟨fun ρ b hb => ⟨rfl, d2 ρ b hb⟩, Keeps.refl W', fun _ _ => rfl⟩ rfl (fun _ _ => rfl) (fun _ _ _ _ _ _ _ => trivial)
  · -- one block, one root
    rcases live2 q h1 with ⟨a1, a2, a3⟩ | ⟨k, a1, rfl⟩ <;> rcases live2 q' h2 with ⟨b1, b2, b3⟩ | ⟨k', b1, rfl⟩
    · rw [old q a1] at h3; rw [old q' b1] at h4
      exact h.mem.store.inj q q' g a3 b3 h3 h4
    · rw [old q a1] at h3
      rw [hb2 k' (live_lt b1)] at h4
      have h5 := hblk a3 h3
      rcases hM.own k' g b1 h4 with h6 | h6
      · exact absurd h5 (Nat.not_lt.2 h6)
      · exact (notO q g a3 a2 h3 h6).elim
    · rw [old q' b1] at h4
      rw [hb2 k (live_lt a1)] at h3
      have h5 := hblk b3 h4
      rcases hM.own k g a1 h3 with h6 | h6
      · exact absurd h5 (Nat.not_lt.2 h6)
      · exact (notO q' g b3 b2 h4 h6).elim
    · rw [hb2 k (live_lt a1)] at h3
      rw [hb2 k' (live_lt b1)] at h4
      rw [hM.store.inj k k' g a1 b1 h3 h4]
  · -- apart from the regions
    rcases live2 q h1 with ⟨a1, a2, a3⟩ | ⟨k, a1, rfl⟩
    · rw [old q a1] at h2
      simp only [D2] at h3
      split at h3
      · exact h.mem.store.far q g 0 a3 h2 h3
      · rename_i h0
        rcases hM.dnew ρ g h3 with h4 | h4 | h4
        · rcases h4 with h4 | ⟨h4, _⟩
          · exact h.mem.store.far q g ρ a3 h2 h4
          · exact h0 h4
        · have := hblk a3 h2; exact absurd this (Nat.not_lt.2 h4)
        · exact notO q g a3 a2 h2 h4
    · rw [hb2 k (live_lt a1)] at h2
      simp only [D2] at h3
      split at h3
      · have h5 := h.mem.lt 0 g h3
        rcases hM.own k g a1 h2 with h6 | h6
        · exact absurd h5 (Nat.not_lt.2 h6)
        · obtain ⟨p, p1, p2, _⟩ := Oown g h6
          exact h.mem.store.far p g 0 p1 p2 h3
      · exact hM.store.far k g ρ a1 h2 h3
  · -- frame
    rw [oldb b (Nat.lt_of_lt_of_le hb h.mem.size) (fun hO' => by
      obtain ⟨p, p1, p2, _⟩ := Oown b hO'
      rcases h.mem.own p b p1 p2 with h6 | h6
      · omega
      · exact hO h6)]
    exact h.mem.frame b hb hO
  · simp only [D2] at hb
    split at hb
    · rename_i h0; subst h0; exact h.mem.dfix 0 b hρ hb
    · rename_i h0
      rcases hM.dfix ρ b (Nat.lt_of_lt_of_le hρ hn) hb with h4 | ⟨h4, _⟩
      · exact h.mem.dfix ρ b hρ h4
      · exact absurd h4 h0
  · simp only [D2] at hb
    split at hb
    · rename_i h0; subst h0; exact h.mem.dnew 0 b hb
    · rename_i h0
      rcases hM.dnew ρ b hb with h4 | h4 | h4
      · rcases h4 with h4 | ⟨h4, _⟩
        · exact h.mem.dnew ρ b h4
        · exact absurd h4 h0
      · exact .inr (.inl (Nat.le_trans h.mem.size h4))
      · obtain ⟨p, p1, p2, _⟩ := Oown b h4
        exact .inr (h.mem.own p b p1 p2)
  · simp only [D2] at hb
    split at hb
    · rename_i h0; subst h0; exact (h.mem.thaw 0 b hb).imp_right fun k => k.keeps hM.keeps
    · rename_i h0
      rcases hM.thaw ρ b hb with h4 | h4
      · rcases h4 with h4 | ⟨h4, _⟩
        · exact (h.mem.thaw ρ b h4).imp_right fun k => k.keeps hM.keeps
        · exact absurd h4 h0
      · exact .inr h4
  · rcases live2 q h1 with ⟨a1, a2, a3⟩ | ⟨k, a1, rfl⟩
    · rw [old q a1] at h2
      exact h.mem.own q g a3 h2
    · rw [hb2 k (live_lt a1)] at h2
      rcases hM.own k g a1 h2 with h6 | h6
      · exact .inl (Nat.le_trans h.mem.size h6)
      · obtain ⟨p, p1, p2, _⟩ := Oown g h6
        exact h.mem.own p g p1 p2
  · simp only [D2] at hb
    split at hb
    · exact Nat.lt_of_lt_of_le (h.mem.lt 0 b hb) hM.size
    · exact hM.lt ρ b hb
  · -- regions apart
    have cross : ∀ ρ, ρ ≠ 0 → D 0 b → D' ρ b → False := by
      intro ρ h0 k1 k2
      rcases hM.dnew ρ b k2 with h4 | h4 | h4
      · rcases h4 with h4 | ⟨h4, _⟩
        · exact h0 (h.mem.sep ρ 0 b h4 k1)
        · exact h0 h4
      · have := h.mem.lt 0 b k1; exact absurd this (Nat.not_lt.2 h4)
      · obtain ⟨p, p1, p2, _⟩ := Oown b h4
        exact h.mem.store.far p b 0 p1 p2 k1
    simp only [D2] at h1 h2
    split at h1 <;> split at h2
    · rename_i e1 e2; rw [e1, e2]
    · rename_i e1 e2; exact (cross ρ' e2 h1 h2).elim
    · rename_i e1 e2; exact (cross ρ e1 h2 h1).elim
    · exact hM.sep ρ ρ' b h1 h2
  · have := h.mem.kst
    rw [old r (by omega)]
    exact h.mem.hand r hr
  · have := h.mem.kst
    show C.k ≤ (stOf e.st m rout).length
    rw [hlen2]; omega
  · have := h.nm i q hq
    show q < (stOf e.st m rout).length
    rw [hlen2]; omega
  · show p < (stOf e.st m rout).length
    rcases look q _ hq with ⟨k1, k2, k3⟩ | ⟨k, R0, k1, k2, rfl, hR⟩
    · have := h.bx q t cs y p k3 hy hp
      rw [hlen2]; omega
    · obtain ⟨cs0, rfl, rfl⟩ := ren_box hR.symm
      obtain ⟨c, hc, rfl⟩ := List.mem_map.1 hy
      obtain ⟨p0, hp0, rfl⟩ := names_ren1 hp
      exact gm_lt p0 (hbx k t cs0 c p0 k2 hc hp0)
  · exact (hres.ren (β' := β2) (fun q hq => hb2 q (hrn q hq))).monoD d2
  · obtain ⟨p, hp, rfl⟩ := names_ren hq
    exact gm_lt p (hrn p hp)
  · subst hn0
    have hnn : ∀ q, ¬ Names res q := fun q hq => absurd (hrn q hq) (Nat.not_lt_zero q)
    exact ⟨hres.mv (ok := fun _ => False) ⟨fun ρ b hb => ⟨rfl, d2 ρ b hb⟩, Keeps.refl W', fun _ h0 => h0.elim⟩ (fun q hq => hnn q hq), hnn⟩
end
end Go.Ve
