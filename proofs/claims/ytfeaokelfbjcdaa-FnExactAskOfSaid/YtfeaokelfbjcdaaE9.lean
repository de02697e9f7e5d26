/- The engine, part 9: append, copy, maps. No condition. -/
import Derived.Test.YtfeaokelfbjcdaaE8
namespace Go.Ve
open Go.RowKit
set_option linter.unusedVariables false
set_option linter.unusedSimpArgs false

section
variable {P : Program} {C : Ctx} {sz : Nat} {e : Env} {a : Act} {W : World} {D : Nat → Nat → Prop} {β : Nat → Option Nat}

theorem set_app_gone {st : List Root} {r : Nat} {R : Root} (h : r < st.length) : (st ++ [R]).set r .gone = st.set r .gone ++ [R] := by
  rw [List.set_append_left _ _ h]

/-- Elements behind elements. -/
theorem Elems.cells {w : Nat} {news : List Value} {ys : List AV} (h : Elems W D w news ys) {rest : List Value} : ∀ (i : Nat) (x : AV), ys[i]? = some x → x.cells.length = w ∧ ∀ (j : Nat) (y : AV), x.cells[j]? = some y → ∃ u, (news ++ rest)[i * w + j]? = some u ∧ RepD W D u y := by
  intro i x hx
  refine ⟨(h.2 i x hx).1, fun j y hy => ?_⟩
  obtain ⟨u, u1, u2⟩ := (h.2 i x hx).2 j y hy
  exact ⟨u, by rw [List.getElem?_append_left (List.getElem?_eq_some_iff.1 u1).1]; exact u1, u2⟩
theorem Elems.append {w : Nat} {n1 n2 : List Value} {x1 x2 : List AV} (h1 : Elems W D w n1 x1) (h2 : Elems W D w n2 x2) : Elems W D w (n1 ++ n2) (x1 ++ x2) := by
  refine ⟨by rw [List.length_append, List.length_append, h1.1, h2.1, Nat.add_mul], fun i x hx => ?_⟩
  by_cases hi : i < x1.length
  · rw [List.getElem?_append_left hi] at hx
    exact h1.cells i x hx
  · rw [List.getElem?_append_right (by omega)] at hx
    refine ⟨(h2.2 _ x hx).1, fun j y hy => ?_⟩
    obtain ⟨u, u1, u2⟩ := (h2.2 _ x hx).2 j y hy
    refine ⟨u, ?_, u2⟩
    have e0 : i * w = x1.length * w + (i - x1.length) * w := by rw [← Nat.add_mul]; congr 1; omega
    rw [List.getElem?_append_right (by rw [h1.1]; omega), h1.1]
    have : i * w + j - x1.length * w = (i - x1.length) * w + j := by omega
    rw [this]; exact u1
theorem Elems.mono {W' : World} {D' : Nat → Nat → Prop} {w : Nat} {news : List Value} {ys : List AV} (h : Elems W D w news ys) (hm : ∀ ρ b, D ρ b → W'.heap[b]? = W.heap[b]? ∧ D' ρ b) : Elems W' D' w news ys :=
  ⟨h.1, fun i x hx => ⟨(h.2 i x hx).1, fun j y hy => let ⟨u, u1, u2⟩ := (h.2 i x hx).2 j y hy; ⟨u, u1, u2.mono hm⟩⟩⟩

/-- A row of a root, as elements. -/
theorem row_elems {r t w : Nat} {xs : List AV} {g : Nat} (hR : RootOk W D β r (.row t w xs)) (hg : β r = some g) : ∃ cur, W.heap[g]? = some (.cells cur t (0, 0)) ∧ ∃ olds, Elems W D w olds xs ∧ ∀ (j : Nat) (u : Value), olds[j]? = some u → W.cell? ((⟨g, 0, none⟩ : Addr).add j) = some u ∧ cur[j]? = some u := by
  rcases hR with ⟨h1, _⟩ | ⟨g', cur, h1, h2, h3⟩
  · rw [hg] at h1; cases h1
  · rw [hg] at h1; injection h1 with h1; subst h1
    obtain ⟨olds, o1, o2⟩ := elems_of (W := W) (D := D) (g := g) (off := 0) (ys := xs) (w := w) (fun i x hx => ⟨(h3 i x hx).1, fun j y hy => by
      obtain ⟨u, u1, u2⟩ := (h3 i x hx).2 j y hy
      exact ⟨u, by rw [Nat.zero_add, cell_of_row W g _ cur t (0, 0) h2]; exact u1, u2⟩⟩)
    refine ⟨cur, h2, olds, o1, fun j u hu => ⟨o2 j u hu, ?_⟩⟩
    have := o2 j u hu
    rw [add_none, Nat.zero_add, cell_of_row W g _ cur t (0, 0) h2] at this
    exact this

/-- A fresh row made by append, behind a draw. -/
theorem St.grown_row (h : St C sz e a W D β) {t w n cap : Nat} {xs : List AV} {all : List Value} {z : Array Value} (hz : z.size = w) (hel : Elems W D w all xs) (hn : xs.length = n) (hcap : n ≤ cap) (hcm : cap ≤ maxLen) :
    St C sz ⟨e.tm, e.st ++ [.row t w xs]⟩ a (W.drew.alloc (.cells (all.toArray ++ Builtin.zeroCells z (cap - n)) t)) D (upd β e.st.length W.heap.size) ∧
      Rep (W.drew.alloc (.cells (all.toArray ++ Builtin.zeroCells z (cap - n)) t)) D (upd β e.st.length W.heap.size) (.slice (some ⟨W.heap.size, 0, none⟩) n cap) (.osl e.st.length w 0 n) := by
  subst hn
  refine h.drew.new_row (t := t) (w := w) (cap := cap) (xs := xs) (cur := all.toArray ++ Builtin.zeroCells z (cap - xs.length)) ?_ hcm hcap (fun i x hx => ?_)
  · rw [Array.size_append, size_zeroCells, hz, List.size_toArray, hel.1, ← Nat.add_mul]
    congr 1
    omega
  · refine ⟨(hel.2 i x hx).1, fun j y hy => ?_⟩
    obtain ⟨u, u1, u2⟩ := (hel.2 i x hx).2 j y hy
    refine ⟨u, ?_, u2.mono (W := W) (W' := W.drew) (D' := D) (fun ρ b hb => ⟨rfl, hb⟩)⟩
    have hl := (List.getElem?_eq_some_iff.1 u1).1
    rw [Array.getElem?_append_left (by simpa using hl)]
    simpa using u1

theorem names_osl {r w off len q : Nat} (h : Names (.osl r w off len) q) : q = r := by cases h; rfl

/-- append to nil. -/
theorem St.append_nil (h : St C sz e a W D β) {t ty et c : Nat} {A : Option Addr} {ys : List AV} (ht : tyOf P t = .sl et) (hz : zOk P et = true) (hb : 0 < P.bytesOf et) (hl : ys.length * P.bytesOf et ≤ 140737488355328)
    (hsrc : ys = [] ∨ ∃ (p : Addr) (news : List Value), A = some p ∧ Elems W D (P.cellsOf et) news ys ∧ ∀ (j : Nat) (u : Value), news[j]? = some u → W.cell? (p.add j) = some u) :
    ∃ u W' β', (Builtin.append_ #[t, t] ty #[.slice none 0 0, .slice A ys.length c]).run P W = .ok u W' ∧ St C sz ⟨e.tm, e.st ++ [.row et (P.cellsOf et) ys]⟩ a W' D β' ∧ Rep W' D β' u (.osl e.st.length (P.cellsOf et) 0 ys.length) := by
  have hu := tyOf_sl ht
  obtain ⟨z, z1, z2, z3, _, i, z4, z5⟩ := zcells_ok (W := W) hz
  have hsz : P.cellsOf et = i.size := by simp [Program.cellsOf, z4]
  have hby : P.bytesOf et = i.bytes := by simp [Program.bytesOf, z4]
  have hlen : ys.length ≤ 140737488355328 := Nat.le_trans (Nat.le_mul_of_pos_right _ hb) hl
  by_cases h0 : ys.length = 0
  · have : ys = [] := List.eq_nil_of_length_eq_zero h0
    subst this
    obtain ⟨β', _, s1, s2⟩ := h.virt et (P.cellsOf et)
    refine ⟨.slice none 0 0, W, β', ?_, s1, s2⟩
    cases A <;> simp [Builtin.append_, run_underlying hu, sizeOf, typeInfo, z4, Builtin.lenOf, Builtin.firstCells, loadCells, loadCellsFrom]
  · rcases hsrc with rfl | ⟨p, news, rfl, n1, n2⟩
    · simp at h0
    have hrun := run_append_nil (P := P) W t ty et i z hu z4 z5 p ys.length c news (by rw [← hsz]; exact n1.1) n2 (by omega) (by omega) (by rw [← hby]; omega)
    obtain ⟨s1, s2⟩ := h.grown_row (t := et) (n := ys.length) (cap := grownCap W ys.length 0 et) (z := z.cells) z3 n1 rfl (grownCap_ge ..) (grownCap_le_maxLen _ _ _ _ (by simp only [maxLen]; omega))
    exact ⟨_, _, _, hrun, s1, s2⟩

/-- append to a row of a root. -/
theorem St.append_row (h : St C sz e a W D β) {t ty et w c r tt : Nat} {A : Option Addr} {xs ys : List AV} {v : Value} (ht : tyOf P t = .sl et) (hz : zOk P et = true) (hb : 0 < P.bytesOf et) (hw : P.cellsOf et = w) (hw0 : 0 < w) (htt : tt = et)
    (hr : e.st[r]? = some (.row tt w xs)) (hv : Rep W D β v (.osl r w 0 xs.length)) (hl : (xs.length + ys.length) * P.bytesOf et ≤ 140737488355328)
    (hsrc : ys = [] ∨ ∃ (p : Addr) (news : List Value), A = some p ∧ Elems W D w news ys ∧ ∀ (j : Nat) (u : Value), news[j]? = some u → W.cell? (p.add j) = some u) :
    ∃ u W' β', (Builtin.append_ #[t, t] ty #[v, .slice A ys.length c]).run P W = .ok u W' ∧ St C sz ⟨e.tm, e.st.set r .gone ++ [.row et w (xs ++ ys)]⟩ a W' D β' ∧ Rep W' D β' u (.osl e.st.length w 0 (xs.length + ys.length)) := by
  subst htt
  subst hw
  have hu := tyOf_sl ht
  have hrl : r < e.st.length := (List.getElem?_eq_some_iff.1 hr).1
  obtain ⟨z, z1, z2, z3, _, i, z4, z5⟩ := zcells_ok (W := W) hz
  have hsz : P.cellsOf tt = i.size := by simp [Program.cellsOf, z4]
  have hby : P.bytesOf tt = i.bytes := by simp [Program.bytesOf, z4]
  have hlen : xs.length + ys.length ≤ 140737488355328 := Nat.le_trans (Nat.le_mul_of_pos_right _ hb) hl
  have hm : xs.length + ys.length ≤ maxLen := by simp only [maxLen]; omega
  cases hv with
  | data _ _ hd => cases hd
  | osl _ _ _ _ _ ho =>
  rcases ho with ⟨h1, rfl, _, h2⟩ | ⟨g, cap, t', cur0, h1, rfl, h3, h4, h5, h6⟩
  · -- nil
    have hx : xs = [] := List.eq_nil_of_length_eq_zero h2
    subst hx
    by_cases hy0 : ys.length = 0
    · have : ys = [] := List.eq_nil_of_length_eq_zero hy0
      subst this
      obtain ⟨β', b1, b2, s1⟩ := h.renew hr (by simp)
      refine ⟨.slice none 0 0, W, β', ?_, s1, .osl _ _ _ _ _ (.inl ⟨b2.trans h1, rfl, rfl, rfl⟩)⟩
      cases A <;> simp [Builtin.append_, run_underlying hu, sizeOf, typeInfo, z4, Builtin.lenOf, Builtin.firstCells, loadCells, loadCellsFrom]
    · obtain ⟨u, W', β', k1, k2, k3⟩ := h.append_nil (P := P) (c := c) (ty := ty) ht hz hb (by simpa using hl) hsrc
      have k2' := k2.gone r
      simp only [set_app_gone hrl] at k2'
      exact ⟨u, W', β', by simpa using k1, by simpa using k2', by simpa using k3⟩
  · obtain ⟨cur, c1, olds, o1, o2⟩ := row_elems (h.mem.store.root r _ hr) h1
    rw [c1] at h3
    injection h3 with h3
    injection h3 with e1 e2 e3
    subst e1 e2
    simp only [Nat.zero_mul, Nat.zero_add] at h4 h5 ⊢
    by_cases hy0 : ys.length = 0
    · have : ys = [] := List.eq_nil_of_length_eq_zero hy0
      subst this
      obtain ⟨β', b1, b2, s1⟩ := h.renew hr (by simp)
      refine ⟨.slice (some ⟨g, 0, none⟩) xs.length cap, W, β', ?_, by simpa using s1, ?_⟩
      · cases A <;> simp [Builtin.append_, run_underlying hu, sizeOf, typeInfo, z4, Builtin.lenOf, Builtin.firstCells, loadCells, loadCellsFrom, h6, storeCells]
      · refine .osl _ _ _ _ _ (.inr ⟨g, cap, tt, cur, b2.trans h1, by simp, c1, by simpa using h4, by omega, by simpa using h6⟩)
    · rcases hsrc with rfl | ⟨p, news, rfl, n1, n2⟩
      · simp at hy0
      have hol : olds.length = xs.length * P.cellsOf tt := o1.1
      have hnl : news.length = ys.length * P.cellsOf tt := n1.1
      by_cases hroom : xs.length + ys.length ≤ cap
      · have hfit : xs.length * i.size + news.length ≤ cur.size := by rw [hnl, h4, ← hsz, ← Nat.add_mul]; exact Nat.mul_le_mul_right _ hroom
        have hrun := run_append_room (P := P) W t ty tt i hu z4 g xs.length cap cur c1 p ys.length c news (by rw [← hsz]; exact hnl) n2 n1.one hroom hfit
        rw [← hsz] at hrun hfit
        have hsz' : ((cur.toList.take (xs.length * P.cellsOf tt) ++ news ++ cur.toList.drop (xs.length * P.cellsOf tt + news.length)).toArray).size = cur.size := by
          simp; omega
        have htake : cur.toList.take (xs.length * P.cellsOf tt) = olds := by
          apply List.ext_getElem?
          intro k
          by_cases hk : k < xs.length * P.cellsOf tt
          · rw [List.getElem?_take, if_pos hk]
            obtain ⟨u, hu⟩ : ∃ u, olds[k]? = some u := ⟨_, List.getElem?_eq_getElem (by omega)⟩
            rw [hu]
            simpa using (o2 k u hu).2
          · rw [List.getElem?_take, if_neg hk, List.getElem?_eq_none (by omega)]
        have hmv := mv_setRow h hr (by simp) h1 c1 hsz'
        have s1 := h.write (R' := .row tt (P.cellsOf tt) (xs ++ ys)) hr (by simp) h1 c1 hsz' (.inr ⟨g, _, h1, setRow_heap W g cur _ tt (0, 0) c1, fun k x hx => by
          have := ((o1.append n1).mono hmv.data).cells (rest := cur.toList.drop (xs.length * P.cellsOf tt + news.length)) k x hx
          refine ⟨this.1, fun j y hy => ?_⟩
          obtain ⟨u, u1, u2⟩ := this.2 j y hy
          exact ⟨u, by rw [htake, List.getElem?_toArray]; exact u1, u2⟩⟩) (fun _ _ _ _ hR _ _ => by cases hR)
        obtain ⟨β', b1, b2, s2⟩ := s1.renew (r := r) (R := .row tt (P.cellsOf tt) (xs ++ ys)) (by simp [hrl]) (by simp)
        simp only [List.set_set, List.length_set] at s2 b1 b2
        refine ⟨_, _, β', hrun, s2, .osl _ _ _ _ _ (.inr ⟨g, cap, tt, _, b2.trans h1, by simp, setRow_heap W g cur _ tt (0, 0) c1, ?_, by omega, hroom⟩)⟩
        rw [hsz', h4]; simp
      · have hrun := run_append_grow (P := P) W t ty tt i z hu z4 z5 ⟨g, 0, none⟩ xs.length cap olds (by rw [← hsz]; exact hol) (fun j u hu => (o2 j u hu).1) p ys.length c news (by rw [← hsz]; exact hnl) n2 (by omega) (by omega) (growslice_fits (by omega) (by rw [← hby]; exact hl))
        obtain ⟨s1, s2⟩ := h.grown_row (t := tt) (n := xs.length + ys.length) (cap := grownCap W (xs.length + ys.length) cap tt) (z := z.cells) z3 (o1.append n1) (by simp) (grownCap_ge ..) (grownCap_le_maxLen _ _ _ _ hm)
        have s1' := s1.gone r
        simp only [set_app_gone hrl] at s1'
        have ea : olds.toArray ++ news.toArray = (olds ++ news).toArray := by simp
        rw [ea] at hrun
        exact ⟨_, _, _, hrun, s1', s2⟩

/-! ### copy -/
theorem St.copy_row (h : St C sz e a W D β) {dT sT ty et off len c r tt : Nat} {A : Option Addr} {xs ys : List AV} {v : Value} (ht : tyOf P dT = .sl et) (hw : P.cellsOf et = 1) (hi : (P.info? et).isSome = true)
    (hr : e.st[r]? = some (.row tt 1 xs)) (hv : Rep W D β v (.osl r 1 off len)) (hf : off + len ≤ xs.length)
    (hsrc : ys = [] ∨ ∃ (p : Addr) (news : List Value), A = some p ∧ Elems W D 1 news ys ∧ ∀ (j : Nat) (u : Value), news[j]? = some u → W.cell? (p.add j) = some u) :
    ∃ W', (Builtin.copy_ #[dT, sT] ty #[v, .slice A ys.length c]).run P W = .ok (.int .i64 (min ys.length len : Nat)) W' ∧ St C sz ⟨e.tm, e.st.set r (.row tt 1 (xs.take off ++ ys.take (min ys.length len) ++ xs.drop (off + min ys.length len)))⟩ a W' D β := by
  have hu := tyOf_sl ht
  have hrl : r < e.st.length := (List.getElem?_eq_some_iff.1 hr).1
  obtain ⟨i, z4⟩ := Option.isSome_iff_exists.1 hi
  have hsz : i.size = 1 := by simpa [Program.cellsOf, z4] using hw
  have same : ∀ n, n = 0 → xs.take off ++ ys.take n ++ xs.drop (off + n) = xs := by
    intro n hn
    subst hn
    simp
  by_cases h0 : min ys.length len = 0
  · have hst : e.st.set r (.row tt 1 (xs.take off ++ ys.take (min ys.length len) ++ xs.drop (off + min ys.length len))) = e.st := by
      rw [same _ h0]
      apply List.ext_getElem?
      intro k
      by_cases hk : r = k
      · subst hk; rw [List.getElem?_set_self hrl, hr]
      · rw [List.getElem?_set_ne hk]
    rw [hst, h0]
    refine ⟨W, ?_, h⟩
    have hfc : (Builtin.firstCells 1 0 (.slice A ys.length c)).run P W = .ok #[] W := by
      cases A <;> simp [Builtin.firstCells, loadCells, loadCellsFrom]
    have hmin : Nat.min ys.length len = 0 := h0
    cases hv with
    | data _ _ hd => cases hd
    | osl _ _ _ _ _ ho =>
    rcases ho with ⟨_, rfl, _, rfl⟩ | ⟨g, cap, t', cur, _, rfl, _⟩
    · simp [Builtin.copy_, run_underlying hu, sizeOf, typeInfo, z4, hsz, Builtin.lenOf, hfc, goInt]
    · simp [Builtin.copy_, run_underlying hu, sizeOf, typeInfo, z4, hsz, Builtin.lenOf, hmin, hfc, storeCells, goInt]
  · rcases hsrc with rfl | ⟨p, news, rfl, n1, n2⟩
    · simp at h0
    cases hv with
    | data _ _ hd => cases hd
    | osl _ _ _ _ _ ho =>
    rcases ho with ⟨_, _, _, rfl⟩ | ⟨g, cap, t', cur0, h1, rfl, h3, h4, h5, h6⟩
    · simp at h0
    obtain ⟨cur, c1, olds, o1, o2⟩ := row_elems (h.mem.store.root r _ hr) h1
    rw [c1] at h3
    injection h3 with h3
    injection h3 with e1 e2 e3
    subst e1 e2
    have hnl : news.length = ys.length := by rw [n1.1, Nat.mul_one]
    have hol : olds.length = xs.length := by rw [o1.1, Nat.mul_one]
    have holc : xs.length ≤ cur.size := by
      rcases Nat.eq_zero_or_pos xs.length with hz | hz
      · omega
      · obtain ⟨u, hu⟩ : ∃ u, olds[xs.length - 1]? = some u := ⟨_, List.getElem?_eq_getElem (by omega)⟩
        have := (Array.getElem?_eq_some_iff.1 (o2 _ u hu).2).1
        omega
    generalize hn : min ys.length len = n at *
    have hnle : n ≤ ys.length := by omega
    have hcs : (news.take n).length = n := by rw [List.length_take]; omega
    have hrun := run_copy_row (P := P) W dT sT ty et g off len cap p ys.length c cur tt (news.take n) hu (by simp [z4, hsz]) c1 (by rw [hcs]; exact hn.symm) (fun j u hj => n2 j u (by rw [List.getElem?_take] at hj; split at hj <;> simp_all)) (by rw [hcs]; omega) (fun u hu => n1.one u (List.mem_of_mem_take hu))
    rw [hcs] at hrun
    have e9 : off * 1 = off := Nat.mul_one _
    rw [e9]
    have hsz' : ((cur.toList.take off ++ news.take n ++ cur.toList.drop (off + n)).toArray).size = cur.size := by
      simp only [List.size_toArray, List.length_append, List.length_take, List.length_drop, Array.length_toList]; omega
    have hmv := mv_setRow h hr (by simp) h1 c1 hsz'
    refine ⟨_, hrun, h.write hr (by simp) h1 c1 hsz' (.inr ⟨g, _, h1, setRow_heap W g cur _ tt (0, 0) c1, fun k x hx => ?_⟩) (fun _ _ _ _ hR _ _ => by cases hR)⟩
    by_cases k1 : k < off
    · rw [List.append_assoc, List.getElem?_append_left (by rw [List.length_take]; omega), List.getElem?_take, if_pos k1] at hx
      obtain ⟨f1, f2⟩ := o1.2 k x hx
      refine ⟨f1, fun j y hy => ?_⟩
      obtain ⟨u, u1, u2⟩ := f2 j y hy
      have hj : j = 0 := by have := (List.getElem?_eq_some_iff.1 hy).1; omega
      subst hj
      simp only [Nat.mul_one, Nat.add_zero] at u1 ⊢
      refine ⟨u, ?_, u2.mono hmv.data⟩
      rw [List.getElem?_toArray, List.append_assoc, List.getElem?_append_left (by rw [List.length_take]; simp; omega), List.getElem?_take, if_pos k1]
      simpa using (o2 k u u1).2
    · by_cases k2 : k < off + n
      · rw [List.append_assoc, List.getElem?_append_right (by rw [List.length_take]; omega), List.length_take, Nat.min_eq_left (by omega), List.getElem?_append_left (by rw [List.length_take]; omega), List.getElem?_take, if_pos (by omega)] at hx
        obtain ⟨f1, f2⟩ := n1.2 _ x hx
        refine ⟨f1, fun j y hy => ?_⟩
        obtain ⟨u, u1, u2⟩ := f2 j y hy
        have hj : j = 0 := by have := (List.getElem?_eq_some_iff.1 hy).1; omega
        subst hj
        simp only [Nat.mul_one, Nat.add_zero] at u1 ⊢
        refine ⟨u, ?_, u2.mono hmv.data⟩
        rw [List.getElem?_toArray, List.append_assoc, List.getElem?_append_right (by rw [List.length_take]; simp; omega), List.length_take, List.getElem?_append_left (by rw [hcs]; simp; omega), List.getElem?_take]
        simp only [Array.length_toList, Nat.min_eq_left (by omega : off ≤ cur.size)]
        rw [if_pos (by omega)]
        exact u1
      · rw [List.getElem?_append_right (by rw [List.length_append, List.length_take, List.length_take]; omega), List.length_append, List.length_take, List.length_take, List.getElem?_drop] at hx
        have e0 : off + n + (k - (min off xs.length + min n ys.length)) = k := by omega
        rw [e0] at hx
        obtain ⟨f1, f2⟩ := o1.2 k x hx
        refine ⟨f1, fun j y hy => ?_⟩
        obtain ⟨u, u1, u2⟩ := f2 j y hy
        have hj : j = 0 := by have := (List.getElem?_eq_some_iff.1 hy).1; omega
        subst hj
        simp only [Nat.mul_one, Nat.add_zero] at u1 ⊢
        refine ⟨u, ?_, u2.mono hmv.data⟩
        rw [List.getElem?_toArray, List.getElem?_append_right (by rw [List.length_append, List.length_take, hcs]; simp; omega), List.length_append, List.length_take, hcs, List.getElem?_drop]
        have e1 : off + n + (k - (min off cur.toList.length + n)) = k := by simp only [Array.length_toList]; omega
        rw [e1]
        simpa using (o2 k u u1).2

/-! ### Maps -/
theorem St.make_map (h : St C sz e a W D β) : St C sz ⟨e.tm, e.st ++ [.mp []]⟩ a (W.alloc (.map #[] 0)) D (upd β e.st.length W.heap.size) ∧ Rep (W.alloc (.map #[] 0)) D (upd β e.st.length W.heap.size) (.map (some W.heap.size)) (.map e.st.length) :=
  ⟨h.alloc _ _ ⟨W.heap.size, #[], 0, by simp [upd], ha_new W _, rfl, fun i k x hx => by simp at hx⟩ (fun _ _ _ _ hR _ _ => by cases hR), .map _ _ (by simp [upd])⟩

/-- The entry of a key is written. -/
def kvSet (kv : List (AV × AV)) (k v : AV) : Option (List (AV × AV)) :=
  match kv with
  | [] => some [(k, v)]
  | (k', v') :: kv => match cellEq k k' with
    | some b => match kvSet kv k v with
      | some r => some (bif b then (k, v) :: kv else (k', v') :: r)
      | none => none
    | none => none

def KvOk (W : World) (D : Nat → Nat → Prop) (es : List MapEntry) (kv : List (AV × AV)) : Prop :=
  es.length = kv.length ∧ ∀ (i : Nat) (k x : AV), kv[i]? = some (k, x) → ∃ e, es[i]? = some e ∧ RepD W D e.key k ∧ RepD W D e.val x

theorem KvOk.tail {es : List MapEntry} {kv : List (AV × AV)} {e0 : MapEntry} {p : AV × AV} (h : KvOk W D (e0 :: es) (p :: kv)) : KvOk W D es kv :=
  ⟨by simpa using h.1, fun i k x hi => by simpa using h.2 (i + 1) k x (by simpa using hi)⟩
theorem KvOk.cons {es : List MapEntry} {kv : List (AV × AV)} {e0 : MapEntry} {k x : AV} (h : KvOk W D es kv) (hk : RepD W D e0.key k) (hx : RepD W D e0.val x) : KvOk W D (e0 :: es) ((k, x) :: kv) :=
  ⟨by simpa using h.1, fun i k' x' hi => by
    cases i with
    | zero => simp at hi; obtain ⟨rfl, rfl⟩ := hi; exact ⟨e0, rfl, hk, hx⟩
    | succ i => simpa using h.2 i k' x' (by simpa using hi)⟩

theorem kvSet_ok {kt : Nat} {d : TypeDesc} (hd : P.underlying kt = some d) {vk vx : Value} {k x : AV} (hk : keyOk P kt k = true) (hvk : RepD W D vk k) (hvx : RepD W D vx x) (born : Nat) : ∀ (kv : List (AV × AV)) (es : List MapEntry) (i : Nat) (r : List (AV × AV)), KvOk W D es kv → kvSet kv k x = some r →
    (Instr.findNow d vk es i = some none ∧ KvOk W D (es ++ [{ key := vk, val := vx, born := born }]) r) ∨
    ∃ j e0, Instr.findNow d vk es i = some (some (i + j, e0.val)) ∧ es[j]? = some e0 ∧ Instr.sameBits 10000 e0.key vk = true ∧ KvOk W D (es.modify j fun e => { e with key := vk, val := vx }) r
  | [], [], i, r, _, h => by
    simp only [kvSet, Option.some.injEq] at h
    subst h
    exact .inl ⟨rfl, KvOk.cons ⟨rfl, fun i k x hi => by simp at hi⟩ hvk hvx⟩
  | [], _ :: _, _, _, hl, _ => by simp [KvOk] at hl
  | _ :: _, [], _, _, hl, _ => by simp [KvOk] at hl
  | (k', x') :: kv, e0 :: es, i, r, hok, h => by
    simp only [kvSet] at h
    obtain ⟨e1, he1, h1, h2⟩ := hok.2 0 k' x' rfl
    simp only [List.getElem?_cons_zero, Option.some.injEq] at he1
    subst he1
    cases hc : cellEq k k' with
    | none => simp [hc] at h
    | some b =>
      cases hf : kvSet kv k x with
      | none => simp [hc, hf] at h
      | some r' =>
        simp only [hc, hf, Option.some.injEq] at h
        have hs := sameNow_ok hd hk hvk h1 hc
        cases b
        · simp only [cond_false] at h
          subst h
          rcases kvSet_ok hd hk hvk hvx born kv es (i + 1) r' hok.tail hf with ⟨h3, h4⟩ | ⟨j, e2, h3, h4, h5, h6⟩
          · exact .inl ⟨by simp only [Instr.findNow, hs]; exact h3, h4.cons h1 h2⟩
          · exact .inr ⟨j + 1, e2, by simp only [Instr.findNow, hs]; rw [h3]; congr 3; omega, by simpa using h4, h5, by simpa using h6.cons h1 h2⟩
        · simp only [cond_true] at h
          subst h
          refine .inr ⟨0, e0, by simp only [Instr.findNow, hs]; rfl, rfl, ?_, by simpa using hok.tail.cons (e0 := { e0 with key := vk, val := vx }) hvk hvx⟩
          -- the same bits
          generalize e0.key = ek at h1
          rcases keyOk_kind hk with ⟨a, n, rfl⟩ | ⟨b, rfl⟩ | ⟨s, rfl⟩ <;> cases k' <;> simp only [cellEq] at hc <;> try cases hc
          · split at hc <;> try cases hc
            rename_i hkk
            subst hkk
            cases hvk; cases h1
            simp at hc
            simp [Instr.sameBits, hc]
          · cases hvk; cases h1
            simp at hc
            simp [Instr.sameBits, hc]
          · cases hvk; cases h1
            simp at hc
            subst hc
            simp [Instr.sameBits, beq_toListBytes]

theorem St.write_map (h : St C sz e a W D β) {r g : Nat} {kv kv' : List (AV × AV)} {es es' : Array MapEntry} {clk clk' : Nat} (hr : e.st[r]? = some (.mp kv)) (hg : β r = some g) (hc : W.heap[g]? = some (.map es clk)) (hk : KvOk W D es'.toList kv') :
    St C sz ⟨e.tm, e.st.set r (.mp kv')⟩ a { W with heap := W.heap.setIfInBounds g (.map es' clk') } D β := by
  have hlive : Live e.st r := ⟨_, hr, by simp⟩
  have hlt := @block_lt W D β e.st h.mem.store.root
  have hgl : g < W.heap.size := hlt hlive hg
  have other : ∀ b, b ≠ g → (W.heap.setIfInBounds g (.map es' clk'))[b]? = W.heap[b]? := fun b hb => by
    rw [Array.getElem?_setIfInBounds_ne (fun e0 => hb e0.symm)]
  have keep : Keeps W { W with heap := W.heap.setIfInBounds g (.map es' clk') } := fun b t' c fr hb => by
    by_cases hbg : b = g
    · subst hbg
      rw [hc] at hb
      cases hb
    · exact ⟨c, (other b hbg).trans hb, rfl⟩
  have hmv : Mv W { W with heap := W.heap.setIfInBounds g (.map es' clk') } D D β β (fun _ => True) := ⟨fun ρ b hb => ⟨other b (fun e0 => h.mem.store.far r g ρ hlive hg (e0 ▸ hb)), hb⟩, keep, fun _ _ => rfl⟩
  have hrl : r < e.st.length := live_lt hlive
  refine ⟨⟨⟨fun q R0 hq => ?_, fun q q' g' h1 h2 => h.mem.store.inj q q' g' (live_set hr (by simp) h1) (live_set hr (by simp) h2), fun q g' ρ h1 => h.mem.store.far q g' ρ (live_set hr (by simp) h1)⟩, h.mem.os, h.mem.tape, h.mem.output, by simpa using h.mem.size, fun b hb hO => ?_, h.mem.keeps.trans keep, h.mem.dup, h.mem.dfix, h.mem.dnew, fun ρ b hb => (h.mem.thaw ρ b hb).imp_right fun k => k.keeps keep, fun q g' h1 => h.mem.own q g' (live_set hr (by simp) h1), fun ρ b hb => by simpa using h.mem.lt ρ b hb, h.mem.sep, h.mem.hand, by simpa using h.mem.kst⟩, fun i => (h.tm i).mv hmv (fun _ _ => trivial), fun i q hq => by simpa using h.nm i q hq, fun q t' cs y p hq hy hp => ?_, h.dd, h.sz⟩
  · by_cases hqr : r = q
    · subst hqr
      simp [hrl] at hq
      subst hq
      exact ⟨g, es', clk', hg, by simp [hgl], by simpa using hk.1, fun i k x hi => by
        obtain ⟨e0, k1, k2, k3⟩ := hk.2 i k x hi
        exact ⟨e0, by simpa using k1, k2.mono hmv.data, k3.mono hmv.data⟩⟩
    · rw [List.getElem?_set_ne hqr] at hq
      by_cases hgone : R0 = .gone
      · subst hgone; trivial
      exact (h.mem.store.root q R0 hq).mv hmv rfl (fun g' hg' => other g' (fun e0 => hqr (h.mem.store.inj r q g hlive ⟨R0, hq, hgone⟩ hg (e0 ▸ hg')))) (fun _ _ _ _ _ _ _ => trivial)
  · show (W.heap.setIfInBounds g (.map es' clk'))[b]? = _
    rw [other b (fun e0 => by
      subst e0
      rcases h.mem.own r b hlive hg with h1 | h1
      · omega
      · exact hO h1)]
    exact h.mem.frame b hb hO
  · by_cases hqr : r = q
    · subst hqr
      simp [hrl] at hq
    · rw [List.getElem?_set_ne hqr] at hq
      simpa using h.bx q t' cs y p hq hy hp

theorem St.map_update (h : St C sz e a W D β) {t kt et r : Nat} {kv kv' : List (AV × AV)} {v vk vx : Value} {k x : AV} (ht : tyOf P t = .mp kt et) (hr : e.st[r]? = some (.mp kv)) (hv : Rep W D β v (.map r)) (hk : keyOk P kt k = true) (hvk : Rep W D β vk k) (hx : Rep W D β vx x) (hxd : x.isD = true) (hs : kvSet kv k x = some kv') :
    ∃ W', (Instr.mapUpdate t v vk vx).run P W = .ok () W' ∧ St C sz ⟨e.tm, e.st.set r (.mp kv')⟩ a W' D β := by
  have hu := tyOf_mp ht
  obtain ⟨g, es, clk, h1, h2, h3, h4⟩ := h.mem.store.root r _ hr
  cases hv with
  | data _ _ hd => cases hd
  | map _ g' hg =>
  rw [h1] at hg
  injection hg with hg
  subst hg
  obtain ⟨d, hd⟩ := keyOk_under hk
  have hkd := rep_data hvk (keyOk_kind hk)
  have hck := run_checkKey (P := P) (W := W) (v := vk) false hk
  have hgo : (getObj g).run P W = .ok (.map es clk) W := by simp [getObj, Sem.run, h2]
  have hok : KvOk W D es.toList kv := ⟨by simpa using h3, fun i k x hi => by obtain ⟨e0, k1, k2⟩ := h4 i k x hi; exact ⟨e0, by simpa using k1, k2⟩⟩
  rcases kvSet_ok hd hk hkd (hx.toD hxd) clk kv es.toList 0 kv' hok hs with ⟨k1, k2⟩ | ⟨j, e0, k1, k2, k3, k4⟩
  · refine ⟨_, ?_, h.write_map (es' := es.push { key := vk, val := vx, born := clk }) (clk' := clk + 1) hr h1 h2 (by simpa using k2)⟩
    simp [Instr.mapUpdate, run_underlying hu, hgo, hck, Instr.findKey, run_underlying hd, k1, setObj, Sem.run, h2]
  · refine ⟨_, ?_, h.write_map (es' := es.modify j fun e => { e with key := vk, val := vx }) (clk' := clk) hr h1 h2 (by simpa using k4)⟩
    have k2' : es[j]? = some e0 := by simpa using k2
    rw [Nat.zero_add] at k1
    simp [Instr.mapUpdate, run_underlying hu, hgo, hck, Instr.findKey, run_underlying hd, k1, k2', Instr.keyThatStays, k3, setObj, Sem.run, h2]
end
end Go.Ve
