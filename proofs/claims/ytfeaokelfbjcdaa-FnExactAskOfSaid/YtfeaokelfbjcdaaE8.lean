/- The engine, part 8: make, stores into rows, append, copy, maps. No condition. -/
import Derived.Test.YtfeaokelfbjcdaaE7
import Derived.Laws.OwnMore
namespace Go.Ve
open Go.RowKit
set_option linter.unusedVariables false
set_option linter.unusedSimpArgs false

/-- The zero element of a type. -/
def zel (P : Program) (t : Nat) : AV :=
  match tyOf P t with
  | .agg => .agg (zcells P t)
  | _ => (zcells P t).headD .undef
/-- Part of an element is written. -/
def setEl (y : AV) (j : Nat) (ds : List AV) : AV :=
  match y with
  | .agg cs => .agg (cs.take j ++ ds ++ cs.drop (j + ds.length))
  | _ => ds.headD .undef
/-- What is read of a slice, and when. -/
def src (st : List Root) : AV → Prop × List AV
  | .sl _ _ ys => (True, ys)
  | .osl r w off len => match st[r]? with
    | some (.row _ w' xs) => (w = w' ∧ off + len ≤ xs.length, (xs.drop off).take len)
    | _ => (False, [])
  | .nils => (True, [])
  | _ => (False, [])
def srcw : AV → Nat → Prop
  | .sl _ w _, k => w = k
  | .osl _ w _ _, k => w = k
  | _, _ => True

section
variable {P : Program} {C : Ctx} {sz : Nat} {e : Env} {a : Act} {W : World} {D : Nat → Nat → Prop} {β : Nat → Option Nat}

/-- The elements ys, w cells each, lie in a row news. -/
def Elems (W : World) (D : Nat → Nat → Prop) (w : Nat) (news : List Value) (ys : List AV) : Prop :=
  news.length = ys.length * w ∧ ∀ (i : Nat) (x : AV), ys[i]? = some x → x.cells.length = w ∧ ∀ (j : Nat) (y : AV), x.cells[j]? = some y → ∃ u, news[i * w + j]? = some u ∧ RepD W D u y

theorem Elems.one {w : Nat} {news : List Value} {ys : List AV} (h : Elems W D w news ys) : ∀ u ∈ news, u.oneCell' = true := by
  intro u hu
  obtain ⟨k, hk⟩ := List.mem_iff_getElem?.1 hu
  have hkl := (List.getElem?_eq_some_iff.1 hk).1
  rw [h.1] at hkl
  have hw : 0 < w := by
    rcases Nat.eq_zero_or_pos w with h0 | h0
    · subst h0; simp at hkl
    · exact h0
  have hi : k / w < ys.length := (Nat.div_lt_iff_lt_mul hw).2 hkl
  obtain ⟨h1, h2⟩ := h.2 (k / w) _ (List.getElem?_eq_getElem hi)
  have hj : k % w < ys[k / w].cells.length := by rw [h1]; exact Nat.mod_lt _ hw
  obtain ⟨u', u1, u2⟩ := h2 (k % w) _ (List.getElem?_eq_getElem hj)
  have : k / w * w + k % w = k := by rw [Nat.mul_comm]; exact Nat.div_add_mod k w
  rw [this, hk] at u1
  injection u1 with u1
  subst u1
  exact u2.oneCell

theorem elems_of {w : Nat} {ys : List AV} {g off : Nat} (h : ∀ (i : Nat) (x : AV), ys[i]? = some x → x.cells.length = w ∧ ∀ (j : Nat) (y : AV), x.cells[j]? = some y → ∃ u, W.cell? ⟨g, off + (i * w + j), none⟩ = some u ∧ RepD W D u y) :
    ∃ news, Elems W D w news ys ∧ ∀ (j : Nat) (u : Value), news[j]? = some u → W.cell? ((⟨g, off, none⟩ : Addr).add j) = some u := by
  let f : Nat → Value := fun k => (W.cell? ⟨g, off + k, none⟩).getD undef
  refine ⟨(List.range (ys.length * w)).map f, ⟨by simp, fun i x hx => ⟨(h i x hx).1, fun j y hy => ?_⟩⟩, fun j u hu => ?_⟩
  · obtain ⟨h1, h2⟩ := h i x hx
    obtain ⟨u, u1, u2⟩ := h2 j y hy
    have hi := (List.getElem?_eq_some_iff.1 hx).1
    have hj := (List.getElem?_eq_some_iff.1 hy).1
    have hlt : i * w + j < ys.length * w := by
      have : (i + 1) * w ≤ ys.length * w := Nat.mul_le_mul_right _ hi
      rw [Nat.add_mul, Nat.one_mul] at this
      omega
    exact ⟨u, by simp [hlt, f, u1], u2⟩
  · have hj := (List.getElem?_eq_some_iff.1 hu).1
    simp only [List.length_map, List.length_range] at hj
    have hw : 0 < w := by
      rcases Nat.eq_zero_or_pos w with h0 | h0
      · subst h0; simp at hj
      · exact h0
    have hi : j / w < ys.length := (Nat.div_lt_iff_lt_mul hw).2 hj
    obtain ⟨h1, h2⟩ := h (j / w) _ (List.getElem?_eq_getElem hi)
    have hjm : j % w < ys[j / w].cells.length := by rw [h1]; exact Nat.mod_lt _ hw
    obtain ⟨u', u1, u2⟩ := h2 (j % w) _ (List.getElem?_eq_getElem hjm)
    have e0 : j / w * w + j % w = j := by rw [Nat.mul_comm]; exact Nat.div_add_mod j w
    rw [e0] at u1
    simp [hj, f, u1] at hu
    rw [add_none, u1, hu]

/-- What a slice holds that is read. -/
theorem src_ok {v : Value} {x : AV} {w : Nat} (hs : ∀ r R, e.st[r]? = some R → RootOk W D β r R) (hx : Rep W D β v x) (hc : (src e.st x).1) (hw : srcw x w) :
    ∃ A cap, v = .slice A (src e.st x).2.length cap ∧ ((src e.st x).2 = [] ∨ ∃ (a : Addr) (news : List Value), A = some a ∧ Elems W D w news (src e.st x).2 ∧ ∀ (j : Nat) (u : Value), news[j]? = some u → W.cell? (a.add j) = some u) := by
  cases x <;> simp only [src] at hc ⊢ <;> try exact hc.elim
  case nils =>
    cases hx with
    | data _ _ h => cases h; exact ⟨none, 0, rfl, .inl trivial⟩
  case sl τ w' ys =>
    simp only [srcw] at hw
    subst hw
    obtain ⟨A, cap, rfl, _, h⟩ := sl_inv hx
    refine ⟨A, cap, rfl, ?_⟩
    rcases h with h | ⟨p, u, rfl, hsp, _, _, k1, k2, k3⟩
    · exact .inl h
    · obtain ⟨news, n1, n2⟩ := elems_of (W := W) (D := D) (g := p.block) (off := p.off) (fun i x hx => ⟨k1 i x hx, fun j y hy => ⟨_, k2 i x j y hx hy, k3 i x j y hx hy⟩⟩)
      refine .inr ⟨p, news, rfl, n1, fun j u hu => ?_⟩
      have := n2 j u hu
      have ep : (⟨p.block, p.off, none⟩ : Addr) = p := by cases p; simp only at hsp; subst hsp; rfl
      rw [ep] at this
      exact this
  case osl r w' off len =>
    simp only [srcw] at hw
    subst hw
    cases hr : e.st[r]? with
    | none => simp [hr] at hc
    | some R =>
      cases R <;> simp [hr] at hc
      rename_i t w'' xs
      obtain ⟨rfl, hl⟩ := hc
      simp only [hr]
      have hlen : ((xs.drop off).take len).length = len := by rw [List.length_take, List.length_drop]; omega
      cases hx with
      | data _ _ h => cases h
      | osl _ _ _ _ _ h =>
      rcases h with ⟨_, rfl, _, rfl⟩ | ⟨g, cap, t', cur, h1, rfl, h3, h4, h5, h6⟩
      · exact ⟨none, 0, by simp, .inl (by simp)⟩
      · refine ⟨some ⟨g, off * w', none⟩, cap, by rw [hlen], ?_⟩
        rcases hs r _ hr with ⟨k1, _⟩ | ⟨g', cur', k1, k2, k3⟩
        · rw [k1] at h1; cases h1
        · rw [h1] at k1; injection k1 with k1; subst k1
          have key : ∀ (i : Nat) (x : AV), ((xs.drop off).take len)[i]? = some x → xs[off + i]? = some x := by
            intro i x hx
            rw [List.getElem?_take] at hx
            split at hx
            · rwa [List.getElem?_drop] at hx
            · cases hx
          obtain ⟨news, n1, n2⟩ := elems_of (W := W) (D := D) (g := g) (off := off * w') (ys := (xs.drop off).take len) (w := w') (fun i x hx => ⟨(k3 _ x (key i x hx)).1, fun j y hy => by
            obtain ⟨u, u1, u2⟩ := (k3 _ x (key i x hx)).2 j y hy
            refine ⟨u, ?_, u2⟩
            rw [cell_of_row W g _ cur' t (0, 0) k2]
            have e0 : off * w' + (i * w' + j) = (off + i) * w' + j := by rw [Nat.add_mul, Nat.add_assoc]
            rw [e0]; exact u1⟩)
          exact .inr ⟨_, news, rfl, n1, n2⟩

/-- make([]T, l, c). -/
theorem St.make_slice (h : St C sz e a W D β) {t et : Nat} {kl kc : IntKind} {l c : Int} (ht : tyOf P t = .sl et) (hz : zOk P et = true) (hzd : ∀ y ∈ zcells P et, y.isD = true) (hzl : (zel P et).cells = zcells P et) (hw : 0 < P.cellsOf et)
    (h0 : 0 ≤ l) (h1 : l ≤ c) (h2 : (P.bytesOf et : Int) * c ≤ 140737488355328) (h3 : c ≤ 140737488355328) :
    ∃ u W', (Instr.makeSlice t (.int kl l) (.int kc c)).run P W = .ok u W' ∧ St C sz ⟨e.tm, e.st ++ [.row et (P.cellsOf et) (List.replicate l.toNat (zel P et))]⟩ a W' D (upd β e.st.length W.heap.size) ∧ Rep W' D (upd β e.st.length W.heap.size) u (.osl e.st.length (P.cellsOf et) 0 l.toNat) := by
  have hu := tyOf_sl ht
  obtain ⟨z, z1, z2, z3, zz, i, z4, z5⟩ := zcells_ok (W := W) hz
  have hsz : P.cellsOf et = i.size := by simp [Program.cellsOf, z4]
  have hby : P.bytesOf et = i.bytes := by simp [Program.bytesOf, z4]
  have hrun := run_make (P := P) W t et i z hu z4 z5 kl kc l c h0 h1 (by rw [← hby]; omega) (by omega)
  have hlc : l.toNat ≤ c.toNat := by omega
  obtain ⟨s1, s2⟩ := h.new_row (t := et) (w := P.cellsOf et) (cap := c.toNat) (xs := List.replicate l.toNat (zel P et)) (cur := madeCells z.cells (c.toNat * i.size)) (by rw [size_madeCells, hsz]) (by simp only [maxLen]; omega) (by simpa using hlc) (fun k x hx => by
    have hk : k < l.toNat := by have := (List.getElem?_eq_some_iff.1 hx).1; simpa using this
    rw [List.getElem?_replicate, if_pos hk] at hx
    injection hx with hx
    subst hx
    rw [hzl]
    refine ⟨z2.symm.trans z3, fun j y hy => ?_⟩
    obtain ⟨u, u1, u2, rfl⟩ := zz j y hy
    have hj : j < P.cellsOf et := by rw [← z3]; exact (Array.getElem?_eq_some_iff.1 u1).1
    refine ⟨u, ?_, (rep_ofCell W D β u).toD (hzd _ (List.mem_of_getElem? hy))⟩
    have hlt : k * P.cellsOf et + j < c.toNat * i.size := by
      have : (k + 1) * P.cellsOf et ≤ c.toNat * P.cellsOf et := Nat.mul_le_mul_right _ (by omega)
      rw [Nat.add_mul, Nat.one_mul] at this
      rw [← hsz]; omega
    have hmod : (k * P.cellsOf et + j) % z.cells.size = j := by rw [z3, Nat.mul_comm, Nat.mul_add_mod, Nat.mod_eq_of_lt hj]
    have hjz : j < z.cells.size := by rw [z3]; exact hj
    simp only [madeCells]
    rw [Array.getElem?_map, Array.getElem?_range, if_pos hlt]
    simp only [Option.map_some, hmod]
    rw [getElem!_pos z.cells j hjz]
    rw [← u1, Array.getElem?_eq_getElem hjz])
  rw [List.length_replicate] at s2
  exact ⟨_, _, hrun, s1, s2⟩

theorem mv_setRow (h : St C sz e a W D β) {r g t : Nat} {R : Root} (hr : e.st[r]? = some R) (hR : R ≠ .gone) (hg : β r = some g) {cur cur' : Array Value} (hc : W.heap[g]? = some (.cells cur t (0, 0))) (hs : cur'.size = cur.size) : Mv W (W.setRow g cur') D D β β (fun _ => True) := by
  refine ⟨fun ρ b hb => ⟨setRow_other W g b _ (fun e0 => h.mem.store.far r g ρ ⟨_, hr, hR⟩ hg (e0 ▸ hb)), hb⟩, fun b t' c fr hb => ?_, fun _ _ => rfl⟩
  by_cases hbg : b = g
  · subst hbg
    rw [hc] at hb
    injection hb with hb
    injection hb with e1 e2 e3
    subst e1 e2 e3
    exact ⟨_, setRow_heap W b cur _ t (0, 0) hc, hs⟩
  · exact ⟨c, (setRow_other W g b _ hbg).trans hb, rfl⟩

/-- A row is written: cells of one element, from j on. -/
theorem St.store_row (h : St C sz e a W D β) {m r t tt w i j : Nat} {xs : List AV} {p v : Value} {x : AV} (hm : C.n ≤ m) (hi : (P.info? t).isSome = true) (hc : (emb e.st m x).c)
    (hr : (gones e.st (emb e.st m x).rs)[r]? = some (.row tt w xs)) (hs : (emb e.st m x).v.cells.length = P.cellsOf t) (hix : i < xs.length) (hj : j + (emb e.st m x).v.cells.length ≤ w) (hel : (setEl (nth xs i) j (emb e.st m x).v.cells).cells = (nth xs i).cells.take j ++ (emb e.st m x).v.cells ++ (nth xs i).cells.drop (j + (emb e.st m x).v.cells.length))
    (hx : Rep W D β v x) (hp : Rep W D β p (.ptr r w i j)) :
    ∃ W' D', (Instr.storeAt t p v).run P W = .ok () W' ∧ St C sz ⟨e.tm, (gones e.st (emb e.st m x).rs).set r (.row tt w (xs.set i (setEl (nth xs i) j (emb e.st m x).v.cells)))⟩ a W' D' β := by
  obtain ⟨D', d1, d2, d3⟩ := St.freezes hm (emb e.st m x).rs e.st h (fun r hr => emb_rows hc r hr) (fun r _ => .inl rfl)
  obtain ⟨k1, k2⟩ := emb_ok h.mem.store.root d1 d2 hx hc
  generalize hds : (emb e.st m x).v.cells = ds at *
  rcases d3.mem.store.root r _ hr with ⟨_, rfl⟩ | ⟨g, cur, g1, g2, g3⟩
  · simp at hix
  have hpe : p = .pointer (some ⟨g, i * w + j, none⟩) := by
    cases hp with
    | data _ _ hd => cases hd
    | ptr _ _ _ _ g' hg => rw [g1] at hg; injection hg with hg; subst hg; rfl
  subst hpe
  obtain ⟨e1, e2⟩ := g3 i _ (nth_some hix)
  have fit : i * w + w ≤ cur.size := by
    rcases Nat.eq_zero_or_pos w with h0 | h0
    · subst h0; simp
    · have hlast : w - 1 < (nth xs i).cells.length := by rw [e1]; omega
      obtain ⟨u, u1, _⟩ := e2 (w - 1) _ (List.getElem?_eq_getElem hlast)
      have := (Array.getElem?_eq_some_iff.1 u1).1
      omega
  have one : ∀ u ∈ v.cells.toList, u.oneCell' = true := fun u hu => by
    obtain ⟨q, hq⟩ := List.mem_iff_getElem?.1 hu
    have hql : q < ds.length := by have := (List.getElem?_eq_some_iff.1 hq).1; simp at this; omega
    obtain ⟨u', u1, u2⟩ := k2 q _ (List.getElem?_eq_getElem hql)
    simp only [Array.getElem?_toList] at hq
    rw [hq] at u1; injection u1 with u1; subst u1; exact u2.oneCell
  have hlen : v.cells.toList.length = ds.length := by simpa using k1
  have hrun := run_storeVar (P := P) (v := v) (off := i * w + j) g2 hi (k1.trans hs) (by omega) one
  have hsz : ((cur.toList.take (i * w + j) ++ v.cells.toList ++ cur.toList.drop (i * w + j + v.cells.toList.length)).toArray).size = cur.size := by simp; omega
  refine ⟨_, D', hrun, d3.write hr (by simp) g1 g2 hsz (.inr ⟨g, _, g1, setRow_heap W g cur _ tt (0, 0) g2, fun i' x' hx' => ?_⟩) (fun _ _ _ _ hR _ _ => by cases hR)⟩
  have hmv := mv_setRow d3 hr (by simp) g1 g2 hsz
  have get : ∀ k, ((cur.toList.take (i * w + j) ++ v.cells.toList ++ cur.toList.drop (i * w + j + v.cells.toList.length)).toArray)[k]? = if k < i * w + j then cur[k]? else if k < i * w + j + ds.length then v.cells[k - (i * w + j)]? else cur[k]? := by
    intro k
    rw [List.getElem?_toArray]
    by_cases h1 : k < i * w + j
    · rw [if_pos h1, List.append_assoc, List.getElem?_append_left (by rw [List.length_take]; simp; omega), List.getElem?_take, if_pos h1]
      simp
    · rw [if_neg h1]
      by_cases h2 : k < i * w + j + ds.length
      · rw [if_pos h2, List.append_assoc, List.getElem?_append_right (by rw [List.length_take]; omega), List.length_take, List.getElem?_append_left (by simp only [Array.length_toList]; simp at hlen; omega)]
        simp only [Array.length_toList, Nat.min_eq_left (by omega : i * w + j ≤ cur.size), Array.getElem?_toList]
      · rw [if_neg h2, List.getElem?_append_right (by rw [List.length_append, List.length_take]; simp only [Array.length_toList]; simp at hlen; omega), List.length_append, List.length_take, List.getElem?_drop]
        simp only [Array.length_toList, Nat.min_eq_left (by omega : i * w + j ≤ cur.size)]
        have : i * w + j + v.cells.size + (k - (i * w + j + v.cells.size)) = k := by simp at hlen; omega
        rw [this]; simp
  have cmp : ∀ i' j', j' < w → i' ≠ i → ¬ (i * w + j ≤ i' * w + j' ∧ i' * w + j' < i * w + j + ds.length) := by
    intro i' j' hj' hne hh
    rcases Nat.lt_or_gt_of_ne hne with hl | hl
    · have : (i' + 1) * w ≤ i * w := Nat.mul_le_mul_right _ hl
      rw [Nat.add_mul, Nat.one_mul] at this
      omega
    · have : (i + 1) * w ≤ i' * w := Nat.mul_le_mul_right _ hl
      rw [Nat.add_mul, Nat.one_mul] at this
      omega
  by_cases hii : i' = i
  · subst hii
    rw [List.getElem?_set_self hix] at hx'
    injection hx' with hx'
    subst hx'
    rw [hel]
    refine ⟨by simp only [List.length_append, List.length_take, List.length_drop]; omega, fun j' y hy => ?_⟩
    rw [get]
    by_cases h1 : j' < j
    · rw [List.append_assoc, List.getElem?_append_left (by rw [List.length_take]; omega), List.getElem?_take, if_pos h1] at hy
      obtain ⟨u, u1, u2⟩ := e2 j' y hy
      exact ⟨u, by rw [if_pos (by omega)]; exact u1, u2.mono hmv.data⟩
    · by_cases h2 : j' < j + ds.length
      · rw [List.append_assoc, List.getElem?_append_right (by rw [List.length_take]; omega), List.length_take, Nat.min_eq_left (by omega), List.getElem?_append_left (by omega)] at hy
        obtain ⟨u, u1, u2⟩ := k2 _ y hy
        refine ⟨u, ?_, u2.mono hmv.data⟩
        rw [if_neg (by omega), if_pos (by omega)]
        have : i' * w + j' - (i' * w + j) = j' - j := by omega
        rw [this]; exact u1
      · rw [List.getElem?_append_right (by rw [List.length_append, List.length_take]; omega), List.length_append, List.length_take, Nat.min_eq_left (by omega), List.getElem?_drop] at hy
        have e0 : j + ds.length + (j' - (j + ds.length)) = j' := by omega
        rw [e0] at hy
        obtain ⟨u, u1, u2⟩ := e2 j' y hy
        exact ⟨u, by rw [if_neg (by omega), if_neg (by omega)]; exact u1, u2.mono hmv.data⟩
  · rw [List.getElem?_set_ne (fun e0 => hii e0.symm)] at hx'
    obtain ⟨f1, f2⟩ := g3 i' x' hx'
    refine ⟨f1, fun j' y hy => ?_⟩
    have hj' : j' < w := by rw [← f1]; exact (List.getElem?_eq_some_iff.1 hy).1
    have := cmp i' j' hj' hii
    obtain ⟨u, u1, u2⟩ := f2 j' y hy
    refine ⟨u, ?_, u2.mono hmv.data⟩
    rw [get]
    by_cases h1 : i' * w + j' < i * w + j
    · rw [if_pos h1]; exact u1
    · rw [if_neg h1, if_neg (by omega)]; exact u1
end
end Go.Ve
