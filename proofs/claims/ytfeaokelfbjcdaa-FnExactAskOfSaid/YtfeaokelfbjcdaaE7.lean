/- The engine, part 7: what the operations on rows and maps do, over a state. No condition. -/
import Derived.Test.YtfeaokelfbjcdaaE6
namespace Go.Ve
open Go.RowKit
set_option linter.unusedVariables false
set_option linter.unusedSimpArgs false

/-- The cells of a struct literal. -/
def avFill (P : Program) (t : Nat) : List AV → List (Nat × AV) → Prop × List AV
  | cells, [] => (True, cells)
  | cells, (i, x) :: rest => match fld P t i with
    | some (off, ft) =>
      (P.cellsOf ft = x.cells.length ∧ (P.info? ft).isSome = true ∧ x.boxable = true ∧ off + x.cells.length ≤ cells.length ∧ (avFill P t (cells.take off ++ x.cells ++ cells.drop (off + x.cells.length)) rest).1,
        (avFill P t (cells.take off ++ x.cells ++ cells.drop (off + x.cells.length)) rest).2)
    | none => (False, [])

section
variable {P : Program} {C : Ctx} {sz : Nat} {e : Env} {a : Act} {W : World} {D : Nat → Nat → Prop} {β : Nat → Option Nat}

theorem foldl_block (off : Nat) (vs cells : Array Value) (hl : off + vs.size ≤ cells.size) :
    vs.zipIdx.foldl (fun cs (c, j) => cs.setIfInBounds (off + j) c) cells = (cells.toList.take off ++ vs.toList ++ cells.toList.drop (off + vs.toList.length)).toArray := by
  rw [← Array.foldl_toList, Array.toList_zipIdx]
  obtain ⟨h1, h2⟩ := Great.foldl_set off vs.toList 0 cells
  apply Array.ext_getElem?
  intro k
  rw [h2 k]
  simp only [Nat.add_zero, Array.length_toList, List.getElem?_toArray]
  by_cases hk1 : k < off
  · rw [if_neg (by omega), List.append_assoc, List.getElem?_append_left (by rw [List.length_take]; simp; omega), List.getElem?_take, if_pos hk1]
    simp
  · by_cases hk2 : k < off + vs.size
    · rw [if_pos ⟨by omega, hk2, by omega⟩, List.append_assoc, List.getElem?_append_right (by rw [List.length_take]; omega), List.length_take]
      simp only [Array.length_toList, Nat.min_eq_left (by omega : off ≤ cells.size)]
      rw [List.getElem?_append_left (by simp; omega)]
    · rw [if_neg (by omega), List.getElem?_append_right (by rw [List.length_append, List.length_take]; simp; omega), List.length_append, List.length_take]
      simp only [Array.length_toList, Nat.min_eq_left (by omega : off ≤ cells.size)]
      rw [List.getElem?_drop]
      have : off + vs.size + (k - (off + vs.size)) = k := by omega
      rw [this]; simp

theorem fill_ok {t : Nat} {fs : Array Field} {places : Array (Nat × Nat)} (hu : P.underlying t = some (.struct fs)) (hp : ∀ (i : Nat) (f : Field), fs[i]? = some f → places[i]? = some (f.offset, P.cellsOf f.type)) : ∀ (pv : List (Nat × Value)) (px : List (Nat × AV)) (cur : Array Value) (cells : List AV),
    pv.length = px.length → (∀ (i k : Nat) (x : AV), px[i]? = some (k, x) → ∃ v, pv[i]? = some (k, v) ∧ Rep W D β v x) → cur.size = cells.length → (∀ (k : Nat) (y : AV), cells[k]? = some y → ∃ u, cur[k]? = some u ∧ u.oneCell' = true ∧ Rep W D β u y) →
    (avFill P t cells px).1 → ∃ r : Array Value, Instr.fill (places[·]?) cur pv = some r ∧ r.size = (avFill P t cells px).2.length ∧ ∀ (k : Nat) (y : AV), (avFill P t cells px).2[k]? = some y → ∃ u, r[k]? = some u ∧ u.oneCell' = true ∧ Rep W D β u y
  | [], [], cur, cells, _, _, hs, hc, _ => ⟨cur, rfl, hs, hc⟩
  | [], _ :: _, _, _, hl, _, _, _, _ => by simp at hl
  | _ :: _, [], _, _, hl, _, _, _, _ => by simp at hl
  | (k, v) :: pv, (k', x) :: px, cur, cells, hl, hr, hs, hc, h => by
    obtain ⟨v', h1, hx⟩ := hr 0 k' x rfl
    simp only [List.getElem?_cons_zero, Option.some.injEq, Prod.mk.injEq] at h1
    obtain ⟨rfl, rfl⟩ := h1
    simp only [avFill] at h ⊢
    cases hf : fld P t k with
    | none => simp [hf] at h
    | some p =>
      obtain ⟨off, ft⟩ := p
      simp only [hf] at h ⊢
      obtain ⟨k1, k2, k3, k4, k5⟩ := h
      unfold fld at hf
      rw [hu] at hf
      simp only [Option.map_eq_some_iff, Prod.mk.injEq] at hf
      obtain ⟨f, hf1, rfl, rfl⟩ := hf
      obtain ⟨c1, c2⟩ := rep_cells hx k3
      have hfb := foldl_block f.offset v.cells cur (by omega)
      have hlen : v.cells.toList.length = x.cells.length := by simpa using c1
      have ih := fill_ok hu hp pv px (cur.toList.take f.offset ++ v.cells.toList ++ cur.toList.drop (f.offset + v.cells.toList.length)).toArray (cells.take f.offset ++ x.cells ++ cells.drop (f.offset + x.cells.length)) (by simpa using hl) (fun i k x hi => by simpa using hr (i + 1) k x (by simpa using hi)) (by simp; omega)
        (setCells_box hs hlen k4 hc (fun k y hy => by obtain ⟨u, u1, u2⟩ := c2 k y hy; exact ⟨u, by simpa using u1, u2⟩)) k5
      obtain ⟨r, r1, r2⟩ := ih
      refine ⟨r, ?_, r2⟩
      simp only [Instr.fill, hp k f hf1]
      have hb : (decide (v.cells.size ≠ P.cellsOf f.type) || decide (f.offset + v.cells.size > cur.size)) = false := by simp; omega
      simp only [hb, Bool.false_eq_true, if_false]
      rw [hfb]
      exact r1

def fldsOk (P : Program) (t : Nat) : Bool := match tyOf P t with
  | .agg => (P.fieldsOf t).toList.all fun f => (P.info? f.type).isSome
  | _ => false
def vBuild (P : Program) (t : Nat) (parts : List (Nat × AV)) : OpR :=
  ⟨fldsOk P t = true ∧ zOk P t = true ∧ (avFill P t (zcells P t) parts).1, .agg (avFill P t (zcells P t) parts).2⟩

theorem mapM_places : ∀ fs : List Field, (∀ f ∈ fs, (P.info? f.type).isSome = true) → fs.mapM (fun f => (P.info? f.type).map fun i => (f.offset, i.size)) = some (fs.map fun f => (f.offset, P.cellsOf f.type))
  | [], _ => rfl
  | f :: fs, h => by
    obtain ⟨i, hi⟩ := Option.isSome_iff_exists.1 (h f (List.mem_cons_self ..))
    have ih := mapM_places fs (fun g hg => h g (List.mem_cons_of_mem _ hg))
    simp [List.mapM_cons, hi, ih, Program.cellsOf]

theorem vBuild_ok {t : Nat} {pv : Array (Nat × Value)} {px : List (Nat × AV)} (hl : pv.toList.length = px.length) (hr : ∀ (i k : Nat) (x : AV), px[i]? = some (k, x) → ∃ v, pv.toList[i]? = some (k, v) ∧ Rep W D β v x) (hc : (vBuild P t px).c) :
    ∃ u, (Instr.build t pv).run P W = .ok u W ∧ Rep W D β u (vBuild P t px).v := by
  obtain ⟨h1, h2, h3⟩ := hc
  unfold fldsOk at h1
  split at h1 <;> try cases h1
  rename_i ht
  obtain ⟨fs, hu⟩ := tyOf_agg ht
  have hfo : P.fieldsOf t = fs := by simp [Program.fieldsOf, hu]
  rw [hfo] at h1
  have hall := List.all_eq_true.1 h1
  obtain ⟨z, _, z2, _, z3, i, z4, z5⟩ := zcells_ok (W := W) h2
  have hm := mapM_places (P := P) fs.toList hall
  obtain ⟨r, r1, r2, r3⟩ := fill_ok (W := W) (D := D) (β := β) (places := (fs.toList.map fun f => (f.offset, P.cellsOf f.type)).toArray) hu (fun i f hf => by simp [hf]) pv.toList px z.cells (zcells P t) hl hr z2 (fun k y hy => by obtain ⟨u, u1, u2, rfl⟩ := z3 k y hy; exact ⟨u, u1, u2, rep_ofCell ..⟩) h3
  have hb : P.built t pv.toList = some r := by
    unfold Program.built
    simp only [z4, hu, z5, hm]
    exact r1
  refine ⟨.agg r, run_build W t pv r hb, .agg _ _ (fun i => r.getD i undef) r2 (fun i y hy => ?_) (fun i y hy => ?_) (fun i y hy => ?_)⟩
  all_goals obtain ⟨u, u1, u2, u3⟩ := r3 i y hy
  · simp [u1]
  · simp [u1, u2]
  · simp [u1, u3]

theorem avFill_names {t : Nat} : ∀ (px : List (Nat × AV)) (cells : List AV) {y : AV} {q : Nat}, y ∈ (avFill P t cells px).2 → Names y q → (y ∈ cells ∨ ∃ k x, (k, x) ∈ px ∧ Names x q)
  | [], cells, y, q, hy, hq => .inl hy
  | (k, x) :: px, cells, y, q, hy, hq => by
    simp only [avFill] at hy
    cases hf : fld P t k with
    | none => simp [hf] at hy
    | some p =>
      simp only [hf] at hy
      rcases avFill_names px _ hy hq with h1 | ⟨k', x', h1, h2⟩
      · simp only [List.mem_append] at h1
        rcases h1 with (h1 | h1) | h1
        · exact .inl (List.mem_of_mem_take h1)
        · exact .inr ⟨k, x, List.mem_cons_self .., names_cells h1 hq⟩
        · exact .inl (List.mem_of_mem_drop h1)
      · exact .inr ⟨k', x', List.mem_cons_of_mem _ h1, h2⟩
theorem vBuild_names {t : Nat} {px : List (Nat × AV)} {q : Nat} (hc : (vBuild P t px).c) (h : Names (vBuild P t px).v q) : ∃ k x, (k, x) ∈ px ∧ Names x q := by
  cases h with
  | agg _ y _ hy hq =>
    rcases avFill_names px _ hy hq with h1 | h1
    · unfold zcells at h1
      split at h1
      · obtain ⟨u, _, rfl⟩ := List.mem_map.1 h1
        exact (names_ofCell hq).elim
      · cases h1
    · exact h1

/-! ### Slice literals -/
theorem flat_len {w : Nat} : ∀ {vs : List Value}, (∀ v ∈ vs, v.cells.size = w) → (vs.flatMap fun v => v.cells.toList).length = vs.length * w
  | [], _ => by simp
  | v :: vs, h => by
    rw [List.flatMap_cons, List.length_append, flat_len (fun u hu => h u (List.mem_cons_of_mem _ hu)), List.length_cons, Nat.add_mul, Nat.one_mul, Array.length_toList, h v (List.mem_cons_self ..), Nat.add_comm]

theorem St.build_slice (h : St C sz e a W D β) {m t et : Nat} {len : Nat} {pv : List Value} {args : List AV} {parts : Array (Nat × Value)} (hm : C.n ≤ m) (ht : tyOf P t = .sl et) (hz : zOk P et = true) (hw : 0 < P.cellsOf et) (hsm : len * P.cellsOf et ≤ 16777216)
    (hlen : pv.length = len) (hal : args.length = len) (hpv : parts.toList = (pv.zipIdx 0).map fun x => (x.2, x.1)) (hrep : ∀ (i : Nat) (x : AV), args[i]? = some x → ∃ v, pv[i]? = some v ∧ Rep W D β v x)
    (hc : ∀ x ∈ args, (emb e.st m x).c ∧ (emb e.st m x).v.cells.length = P.cellsOf et) :
    ∃ u W' D' β', (Instr.buildSlice t len parts).run P W = .ok u W' ∧ St C sz ⟨e.tm, gones e.st (args.flatMap fun x => (emb e.st m x).rs) ++ [.row et (P.cellsOf et) (args.map fun x => (emb e.st m x).v)]⟩ a W' D' β' ∧ Rep W' D' β' u (.osl e.st.length (P.cellsOf et) 0 len) := by
  have hu := tyOf_sl ht
  obtain ⟨D', d1, d2, d3⟩ := St.freezes hm (args.flatMap fun x => (emb e.st m x).rs) e.st h (fun r hr => by
    obtain ⟨x, hx, hr⟩ := List.mem_flatMap.1 hr
    exact emb_rows (hc x hx).1 r hr) (fun r _ => .inl rfl)
  have each : ∀ (i : Nat) (x : AV), args[i]? = some x → ∃ v, pv[i]? = some v ∧ v.cells.size = (emb e.st m x).v.cells.length ∧ ∀ (j : Nat) (y : AV), (emb e.st m x).v.cells[j]? = some y → ∃ u, v.cells[j]? = some u ∧ RepD W D' u y := by
    intro i x hx
    obtain ⟨v, v1, v2⟩ := hrep i x hx
    have hxm := List.mem_of_getElem? hx
    obtain ⟨k1, k2⟩ := emb_ok h.mem.store.root d1 (fun r hr => d2 r (List.mem_flatMap.2 ⟨x, hxm, hr⟩)) v2 (hc x hxm).1
    exact ⟨v, v1, k1, k2⟩
  have hvs : ∀ v ∈ pv, v.cells.size = P.cellsOf et := by
    intro v hv
    obtain ⟨i, hi⟩ := List.mem_iff_getElem?.1 hv
    have hil : i < args.length := by have := (List.getElem?_eq_some_iff.1 hi).1; omega
    obtain ⟨v', v1, v2, _⟩ := each i _ (List.getElem?_eq_getElem hil)
    rw [hi] at v1; injection v1 with v1; subst v1
    rw [v2, (hc _ (List.getElem_mem hil)).2]
  obtain ⟨z, z1, z2, z3, _, i, z4, z5⟩ := zcells_ok (W := W) hz
  have hsz : P.cellsOf et = i.size := by simp [Program.cellsOf, z4]
  have hfill : Instr.fill (fun k => some (k * P.cellsOf et, P.cellsOf et)) ((Array.range (len * P.cellsOf et)).map (z.cells[· % z.cells.size]!)) parts.toList = some (pv.flatMap fun v => v.cells.toList).toArray :=
    fill_zip _ pv _ hpv hw _ hvs (by simp [hlen])
  by_cases h0 : len = 0
  · subst h0
    have : pv = [] := List.eq_nil_of_length_eq_zero hlen
    subst this
    have : args = [] := List.eq_nil_of_length_eq_zero hal
    subst this
    have hrun : (Instr.buildSlice t 0 parts).run P W = .ok (.slice (some ⟨W.heap.size, 0, none⟩) 0 0) (W.alloc (.cells #[] et)) := by
      have hp0 : parts.toList = [] := by simpa using hpv
      simp [Instr.buildSlice, run_underlying hu, sizeOf, typeInfo, z4, hp0, Instr.fill, newRow, Array.range_zero']
    obtain ⟨s1, s2⟩ := d3.new_row (t := et) (w := P.cellsOf et) (cap := 0) (xs := []) (cur := #[]) (by simp) (Nat.zero_le _) (Nat.zero_le _) (fun i x hx => by simp at hx)
    simp only [List.flatMap_nil, gones, List.foldl_nil] at s1 s2
    exact ⟨_, _, D', _, hrun, s1, s2⟩
  · have hpos : 0 < len * P.cellsOf et := Nat.mul_pos (by omega) hw
    have hrun : (Instr.buildSlice t len parts).run P W = .ok (.slice (some ⟨W.heap.size, 0, none⟩) len len) (W.alloc (.cells (pv.flatMap fun v => v.cells.toList).toArray et)) := by
      have n1 : ¬ (len * i.size > 16777216) := by rw [← hsz]; omega
      have n2 : ¬ (len * i.size = 0) := by rw [← hsz]; omega
      rw [hsz] at hfill
      simp only [Instr.buildSlice, Sem.run_bind, run_underlying hu, Result.andThen_ok, sizeOf, typeInfo, run_program, z4, Sem.run_pure, Sem.run_ite]
      simp [n1, n2, zeroValue, typeInfo, z4, z5, hfill, newRow]
    have hflen : ((pv.flatMap fun v => v.cells.toList).toArray).size = len * P.cellsOf et := by
      rw [List.size_toArray, flat_len hvs, hlen]
    obtain ⟨s1, s2⟩ := d3.new_row (t := et) (w := P.cellsOf et) (cap := len) (xs := args.map fun x => (emb e.st m x).v) (cur := (pv.flatMap fun v => v.cells.toList).toArray) hflen (by simp only [maxLen]; have := Nat.le_mul_of_pos_right len hw; omega) (by simp [hal]) (fun i x hx => by
      simp only [List.getElem?_map, Option.map_eq_some_iff] at hx
      obtain ⟨x0, hx0, rfl⟩ := hx
      refine ⟨(hc x0 (List.mem_of_getElem? hx0)).2, fun j y hy => ?_⟩
      obtain ⟨v, v1, v2, v3⟩ := each i x0 hx0
      obtain ⟨u, u1, u2⟩ := v3 j y hy
      have hj : j < P.cellsOf et := by
        have := (List.getElem?_eq_some_iff.1 hy).1
        rw [(hc x0 (List.mem_of_getElem? hx0)).2] at this; exact this
      exact ⟨u, by rw [flat_at hvs hj v1]; exact u1, u2⟩)
    have hgl := gones_length (args.flatMap fun x => (emb e.st m x).rs) e.st
    simp only [List.length_map, hal, hgl] at s1 s2
    exact ⟨_, _, D', _, hrun, s1, s2⟩
end
end Go.Ve
