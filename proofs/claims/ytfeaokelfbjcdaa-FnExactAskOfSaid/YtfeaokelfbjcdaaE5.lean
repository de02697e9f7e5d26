/- The engine, part 5: operations that make or write memory. No condition. -/
import Derived.Test.YtfeaokelfbjcdaaE4
namespace Go.Ve
open Go.RowKit
set_option linter.unusedVariables false
set_option linter.unusedSimpArgs false

/-- What an operation does to an environment: when it may, and what follows. -/
def AV.isCell : AV → Bool
  | .undef | .agg _ | .tup _ | .gd _ _ => false
  | _ => true
/-- A value that a variable may hold. -/
def AV.boxable : AV → Bool
  | .agg _ => true
  | x => x.isCell
/-- A cell of plain data. -/
def AV.isD : AV → Bool
  | .int _ _ | .bool _ | .str _ | .nilp | .nils | .nili | .ifc _ _ | .sl _ _ _ | .dptr _ _ => true
  | _ => false
def zOk (P : Program) (t : Nat) : Bool :=
  match (P.info? t).bind (·.zero) with
  | some v => v.cells.toList.all Value.oneCell' && v.cells.size == P.cellsOf t
  | none => false
def zcells (P : Program) (t : Nat) : List AV :=
  match (P.info? t).bind (·.zero) with
  | some v => v.cells.toList.map ofCell
  | none => []

section
variable {P : Program} {C : Ctx} {sz : Nat} {e : Env} {a : Act} {W : World} {D : Nat → Nat → Prop} {β : Nat → Option Nat}

theorem Rep.oneCell {v : Value} {x : AV} (h : Rep W D β v x) (hx : x.isCell = true) : v.oneCell' = true := by
  cases h with
  | undef => cases hx
  | data _ _ h => exact h.oneCell
  | osl _ _ _ _ _ h => rcases h with ⟨_, rfl, _⟩ | ⟨_, _, _, _, _, rfl, _⟩ <;> rfl
  | ptr => rfl
  | map => rfl
  | fn => rfl
  | agg => cases hx
  | tup => cases hx
  | gd => cases hx
theorem Rep.toD {v : Value} {x : AV} (h : Rep W D β v x) (hx : x.isD = true) : RepD W D v x := by
  cases h with
  | data _ _ h => exact h
  | _ => cases hx

theorem cells_leaf {v : Value} (h : v.oneCell' = true) : v.cells = #[v] := by
  cases v <;> first | rfl | cases h

/-- The cells of a variable's value. -/
theorem rep_cells {v : Value} {x : AV} (h : Rep W D β v x) (hb : x.boxable = true) : v.cells.size = x.cells.length ∧ ∀ (j : Nat) (y : AV), x.cells[j]? = some y → ∃ u, v.cells[j]? = some u ∧ u.oneCell' = true ∧ Rep W D β u y := by
  by_cases hx : x.isCell = true
  · have h1 := h.oneCell hx
    have hxc : x.cells = [x] := by cases x <;> first | rfl | cases hx
    rw [cells_leaf h1, hxc]
    refine ⟨rfl, fun j y hy => ?_⟩
    cases j with
    | zero => simp at hy; subst hy; exact ⟨v, rfl, h1, h⟩
    | succ j => simp at hy
  · cases x <;> simp [AV.boxable, AV.isCell] at hb hx
    obtain ⟨vs, rfl, hl, hr⟩ := agg_inv h
    exact ⟨hl, hr⟩

theorem names_cells {x y : AV} {q : Nat} (hy : y ∈ x.cells) (h : Names y q) : Names x q := by
  cases x <;> simp only [AV.cells, List.mem_singleton] at hy
  case agg cs => exact .agg _ y _ hy h
  all_goals (subst hy; exact h)

theorem St.new_box (h : St C sz e a W D β) {t : Nat} {v : Value} {cs : List AV} (hl : v.cells.size = cs.length) (hr : ∀ (j : Nat) (y : AV), cs[j]? = some y → ∃ u, v.cells[j]? = some u ∧ u.oneCell' = true ∧ Rep W D β u y)
    (hn : ∀ y q, y ∈ cs → Names y q → q < e.st.length) :
    St C sz ⟨e.tm, e.st ++ [.box t cs]⟩ a (W.alloc (.cells v.cells t)) D (upd β e.st.length W.heap.size) := by
  refine h.alloc _ _ ?_ (fun t' cs' y q hR hy hq => by cases hR; exact hn y q hy hq)
  have hmv := mv_alloc W (.cells v.cells t) D h.mem.lt β (upd β e.st.length W.heap.size) (· < e.st.length) (fun r hr => by simp [upd]; omega)
  refine ⟨W.heap.size, v.cells, by simp [upd], ha_new W _, hl, fun j y hy => ?_⟩
  obtain ⟨u, h1, h2, h3⟩ := hr j y hy
  exact ⟨u, h1, h2, h3.mv hmv (fun q hq => hn y q (List.mem_of_getElem? hy) hq)⟩

theorem rep_new_ptr (β : Nat → Option Nat) (n g : Nat) : Rep W D (upd β n g) (.pointer (some ⟨g, 0, none⟩)) (.ptr n 0 0 0) := by
  have := Rep.ptr (W := W) (D := D) (β := upd β n g) n 0 0 0 g (by simp [upd])
  simpa using this

theorem zcells_ok {t : Nat} (h : zOk P t = true) : ∃ v, (zeroValue t).run P W = .ok v W ∧ v.cells.size = (zcells P t).length ∧ v.cells.size = P.cellsOf t ∧ (∀ (j : Nat) (y : AV), (zcells P t)[j]? = some y → ∃ u, v.cells[j]? = some u ∧ u.oneCell' = true ∧ y = ofCell u) ∧ ∃ i, P.info? t = some i ∧ i.zero = some v := by
  unfold zOk at h
  split at h <;> try cases h
  rename_i v hv
  cases hi : P.info? t with
  | none => simp [hi] at hv
  | some i =>
    have hz : i.zero = some v := by simpa [hi] using hv
    have hzc : zcells P t = v.cells.toList.map ofCell := by unfold zcells; rw [hv]
    simp only [Bool.and_eq_true, beq_iff_eq] at h
    refine ⟨v, by simp [zeroValue, typeInfo, hi, hz], by rw [hzc]; simp, h.2, fun j y hy => ?_, i, rfl, hz⟩
    rw [hzc, List.getElem?_map] at hy
    cases hu : v.cells.toList[j]? with
    | none => simp [hu] at hy
    | some u =>
      simp only [hu, Option.map_some, Option.some.injEq] at hy
      exact ⟨u, by simpa using hu, List.all_eq_true.1 h.1 u (List.mem_of_getElem? hu), hy.symm⟩

/-! ### Storing -/
theorem setCells_box {cs vals : List AV} {cur : Array Value} {vv : List Value} {j : Nat} (hl : cur.size = cs.length) (hv : vv.length = vals.length) (hj : j + vals.length ≤ cs.length)
    (hc : ∀ (k : Nat) (y : AV), cs[k]? = some y → ∃ u, cur[k]? = some u ∧ u.oneCell' = true ∧ Rep W D β u y) (hw : ∀ (k : Nat) (y : AV), vals[k]? = some y → ∃ u, vv[k]? = some u ∧ u.oneCell' = true ∧ Rep W D β u y) :
    ∀ (k : Nat) (y : AV), (cs.take j ++ vals ++ cs.drop (j + vals.length))[k]? = some y → ∃ u, (cur.toList.take j ++ vv ++ cur.toList.drop (j + vv.length)).toArray[k]? = some u ∧ u.oneCell' = true ∧ Rep W D β u y := by
  intro k y hy
  simp only [List.getElem?_toArray]
  have hlc : cur.toList.length = cs.length := by simpa using hl
  by_cases h1 : k < j
  · rw [List.append_assoc, List.getElem?_append_left (by rw [List.length_take]; omega), List.getElem?_take, if_pos h1] at hy
    rw [List.append_assoc, List.getElem?_append_left (by rw [List.length_take]; omega), List.getElem?_take, if_pos h1]
    obtain ⟨u, k1, k2⟩ := hc k y hy
    exact ⟨u, by simpa using k1, k2⟩
  · by_cases h2 : k < j + vals.length
    · rw [List.append_assoc, List.getElem?_append_right (by rw [List.length_take]; omega), List.length_take, Nat.min_eq_left (by omega), List.getElem?_append_left (by omega)] at hy
      rw [List.append_assoc, List.getElem?_append_right (by rw [List.length_take]; omega), List.length_take, Nat.min_eq_left (by omega), List.getElem?_append_left (by omega)]
      exact hw _ y hy
    · rw [List.getElem?_append_right (by rw [List.length_append, List.length_take]; omega), List.length_append, List.length_take, Nat.min_eq_left (by omega), List.getElem?_drop] at hy
      rw [List.getElem?_append_right (by rw [List.length_append, List.length_take]; omega), List.length_append, List.length_take, Nat.min_eq_left (by omega), List.getElem?_drop]
      have e1 : j + vals.length + (k - (j + vals.length)) = k := by omega
      have e2 : j + vv.length + (k - (j + vv.length)) = k := by omega
      rw [e1] at hy
      rw [e2]
      obtain ⟨u, k1, k2⟩ := hc k y hy
      exact ⟨u, by simpa using k1, k2⟩

/-- Storing the cells of v at cell off of block g. -/
theorem run_storeVar {t g off tt : Nat} {v : Value} {cur : Array Value} (hc : W.heap[g]? = some (.cells cur tt (0, 0))) (hi : (P.info? t).isSome = true) (hs : v.cells.size = P.cellsOf t) (hf : off + v.cells.size ≤ cur.size) (h1 : ∀ u ∈ v.cells.toList, u.oneCell' = true) :
    (Instr.storeAt t (.pointer (some ⟨g, off, none⟩)) v).run P W = .ok () (W.setRow g (cur.toList.take off ++ v.cells.toList ++ cur.toList.drop (off + v.cells.toList.length)).toArray) := by
  have hst := run_storeCells_at P g off tt v.cells.toList 0 cur W hc (by simpa using hf) h1
  simp only [Nat.add_zero] at hst
  simp [Instr.storeAt, Instr.sureAddr, storeVar, run_sizeOf' hi, hs, hst]

/-- A box is written: cells from j on. -/
theorem St.store_box (h : St C sz e a W D β) {o : Operand} {r t j tt : Nat} {cs : List AV} {v : Value} {x : AV} (hr : e.st[r]? = some (.box tt cs)) (hi : (P.info? t).isSome = true) (hs : x.cells.length = P.cellsOf t) (hj : j + x.cells.length ≤ cs.length) (hx : Rep W D β v x) (hb : x.boxable = true) (hn : ∀ q, Names x q → q < e.st.length) (hp : Rep W D β (a.eval o) (.ptr r 0 0 j)) :
    ∃ W', (Instr.storeAt t (a.eval o) v).run P W = .ok () W' ∧ St C sz ⟨e.tm, e.st.set r (.box tt (cs.take j ++ x.cells ++ cs.drop (j + x.cells.length)))⟩ a W' D β := by
  obtain ⟨g, cur, h1, h2, h3, h4⟩ := h.mem.store.root r _ hr
  obtain ⟨k1, k2⟩ := rep_cells hx hb
  have hpe : a.eval o = .pointer (some ⟨g, j, none⟩) := by
    generalize a.eval o = p at hp
    cases hp with
    | data _ _ hd => cases hd
    | ptr _ _ _ _ g' hg => rw [h1] at hg; injection hg with hg; subst hg; simp
  have one : ∀ u ∈ v.cells.toList, u.oneCell' = true := fun u hu => by
    obtain ⟨i, hi⟩ := List.mem_iff_getElem?.1 hu
    have hil : i < x.cells.length := by
      have := (List.getElem?_eq_some_iff.1 hi).1
      simp at this; omega
    obtain ⟨u', u1, u2, _⟩ := k2 i _ (List.getElem?_eq_getElem hil)
    simp only [Array.getElem?_toList] at hi
    rw [hi] at u1; injection u1 with u1; subst u1; exact u2
  have hrun := run_storeVar (P := P) (off := j) h2 hi (k1.trans hs) (by omega) one
  refine ⟨_, by rw [hpe]; exact hrun, ?_⟩
  have hlen : v.cells.toList.length = x.cells.length := by simpa using k1
  have hsz : ((cur.toList.take j ++ v.cells.toList ++ cur.toList.drop (j + v.cells.toList.length)).toArray).size = cur.size := by
    simp; omega
  refine h.write hr (by simp) h1 h2 hsz ?_ (fun t' cs' y q hR hy hq => ?_)
  · have hmv : Mv W (W.setRow g (cur.toList.take j ++ v.cells.toList ++ cur.toList.drop (j + v.cells.toList.length)).toArray) D D β β (fun _ => True) := by
      refine ⟨fun ρ b hb => ⟨setRow_other W g b _ (fun e0 => h.mem.store.far r g ρ ⟨_, hr, by simp⟩ h1 (e0 ▸ hb)), hb⟩, fun b t' c fr hb => ?_, fun _ _ => rfl⟩
      by_cases hbg : b = g
      · subst hbg
        rw [h2] at hb
        injection hb with hb
        injection hb with e1 e2 e3
        subst e1 e2 e3
        exact ⟨_, setRow_heap W b cur _ tt (0, 0) h2, hsz⟩
      · exact ⟨c, (setRow_other W g b _ hbg).trans hb, rfl⟩
    refine ⟨g, _, h1, setRow_heap W g cur _ tt (0, 0) h2, by simp; omega, fun k y hy => ?_⟩
    obtain ⟨u, u1, u2, u3⟩ := setCells_box (W := W) (D := D) (β := β) h3 hlen hj h4 (fun k y hy => by obtain ⟨u, u1, u2⟩ := k2 k y hy; exact ⟨u, by simpa using u1, u2⟩) k y hy
    exact ⟨u, u1, u2, u3.mv hmv (fun _ _ => trivial)⟩
  · cases hR
    simp only [List.mem_append] at hy
    rcases hy with (hy | hy) | hy
    · exact h.bx r tt cs y q hr (List.mem_of_mem_take hy) hq
    · exact hn q (names_cells hy hq)
    · exact h.bx r tt cs y q hr (List.mem_of_mem_drop hy) hq
end
end Go.Ve
