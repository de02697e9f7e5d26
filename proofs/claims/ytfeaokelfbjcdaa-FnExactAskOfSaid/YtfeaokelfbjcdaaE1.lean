/- The engine, part 1: what an operation without effect gives, and that the machine gives the same. No condition. -/
import Derived.Test.YtfeaokelfbjcdaaE0
import Derived.Laws.StructEq
import Derived.Laws.Pointers
import Derived.Laws.Slices
import Derived.Laws.Small
import Derived.Laws.Strings2
namespace Go.Ve
open Go.RowKit
set_option linter.unusedVariables false
set_option linter.unusedSimpArgs false

/-! ### Types, in few words -/
inductive Ty where
  | int (k : IntKind) | bool | str | ptr | sl (e : Nat) | mp (k e : Nat) | agg | ifc | fn | other
def tyOf (P : Program) (t : Nat) : Ty :=
  match P.underlying t with
  | some (.int k) => .int k
  | some .bool => .bool
  | some .string => .str
  | some (.pointer _) => .ptr
  | some (.slice e) => .sl e
  | some (.map k e) => .mp k e
  | some (.struct _) => .agg
  | some (.interface _) => .ifc
  | some (.func _ _ _) => .fn
  | _ => .other
def fld (P : Program) (s f : Nat) : Option (Nat × Nat) :=
  match P.underlying s with
  | some (.struct fs) => (fs[f]?).map fun x => (x.offset, x.type)
  | _ => none

section
variable {P : Program}
theorem info_of_underlying {t : Nat} {d : TypeDesc} (h : P.underlying t = some d) : ∃ i, P.info? t = some i := by
  unfold Program.underlying at h
  cases hi : P.info? t with
  | none => simp [hi] at h
  | some i => exact ⟨i, rfl⟩
theorem tyOf_some {t : Nat} (h : tyOf P t ≠ .other) : ∃ d, P.underlying t = some d := by
  cases hu : P.underlying t with
  | none => simp [tyOf, hu] at h
  | some d => exact ⟨d, rfl⟩
theorem tyOf_sl {t e : Nat} (h : tyOf P t = .sl e) : P.underlying t = some (.slice e) := by
  unfold tyOf at h
  split at h <;> simp_all
theorem tyOf_mp {t k e : Nat} (h : tyOf P t = .mp k e) : P.underlying t = some (.map k e) := by
  unfold tyOf at h
  split at h <;> simp_all
theorem tyOf_str {t : Nat} (h : tyOf P t = .str) : P.underlying t = some .string := by
  unfold tyOf at h
  split at h <;> simp_all
theorem tyOf_bool {t : Nat} (h : tyOf P t = .bool) : P.underlying t = some .bool := by
  unfold tyOf at h
  split at h <;> simp_all
theorem tyOf_int {t : Nat} {k : IntKind} (h : tyOf P t = .int k) : P.underlying t = some (.int k) := by
  unfold tyOf at h
  split at h <;> simp_all
theorem tyOf_agg {t : Nat} (h : tyOf P t = .agg) : ∃ fs, P.underlying t = some (.struct fs) := by
  unfold tyOf at h
  split at h <;> simp_all
theorem run_sizeOf {t : Nat} {d : TypeDesc} (h : P.underlying t = some d) (W : World) : (sizeOf t).run P W = .ok (P.cellsOf t) W := by
  obtain ⟨i, hi⟩ := info_of_underlying h
  simp [sizeOf, typeInfo, hi, Program.cellsOf]
theorem run_sizeOf' {t : Nat} (h : (P.info? t).isSome = true) (W : World) : (sizeOf t).run P W = .ok (P.cellsOf t) W := by
  obtain ⟨i, hi⟩ := Option.isSome_iff_exists.1 h
  simp [sizeOf, typeInfo, hi, Program.cellsOf]
end

/-! ### Results -/
structure OpR where
  c : Prop
  v : AV
def OpR.no : OpR := ⟨False, .undef⟩

def AV.core : AV → AV
  | .gd _ v => v
  | v => v
def AV.gc : AV → Bool
  | .gd g _ => g
  | _ => true

/-- Nothing in it that a word 'gd' guards. -/
theorem Rep.core {W : World} {D : Nat → Nat → Prop} {β : Nat → Option Nat} {v : Value} {x : AV} (h : Rep W D β v x) (hg : x.gc = true) : Rep W D β v x.core := by
  cases x <;> first | exact h | skip
  rename_i g x
  cases h with
  | data _ _ hd => cases hd
  | gd _ _ _ h _ => exact h hg
theorem Names.core {x : AV} {q : Nat} (hg : x.gc = true) (h : Names x.core q) : Names x q := by
  cases x <;> first | exact h | (simp only [AV.gc] at hg; subst hg; exact .gd _ _ h)

def ofCell : Value → AV
  | .int k n => .int k n
  | .bool b => .bool b
  | .string s => .str s
  | .pointer none => .nilp
  | .slice none 0 0 => .nils
  | .nilIface => .nili
  | _ => .undef
def ofValue : Value → AV
  | .agg cs => bif cs.toList.all Value.oneCell' then .agg (cs.toList.map ofCell) else .undef
  | v => ofCell v
theorem rep_ofCell (W : World) (D : Nat → Nat → Prop) (β : Nat → Option Nat) (v : Value) : Rep W D β v (ofCell v) := by
  unfold ofCell
  split
  · exact .data _ _ (.int ..)
  · exact .data _ _ (.bool ..)
  · exact .data _ _ (.str ..)
  · exact .data _ _ .nilp
  · exact .data _ _ .nils
  · exact .data _ _ .nili
  · exact .undef _
theorem names_ofCell {v : Value} {q : Nat} (h : Names (ofCell v) q) : False := by
  unfold ofCell at h
  split at h <;> cases h
theorem names_ofValue {v : Value} {q : Nat} (h : Names (ofValue v) q) : False := by
  unfold ofValue at h
  split at h
  · rename_i cs
    cases hb : cs.toList.all Value.oneCell' <;> simp only [hb, cond_true, cond_false] at h
    · cases h
    cases h with
    | agg cs y q hy h =>
      obtain ⟨u, _, rfl⟩ := List.mem_map.1 hy
      exact names_ofCell h
  · exact names_ofCell h
theorem rep_ofValue (W : World) (D : Nat → Nat → Prop) (β : Nat → Option Nat) (v : Value) : Rep W D β v (ofValue v) := by
  unfold ofValue
  split
  · rename_i cs
    cases hb : cs.toList.all Value.oneCell'
    · exact .undef _
    have key : ∀ (i : Nat) (y : AV), (cs.toList.map ofCell)[i]? = some y → ∃ u, cs[i]? = some u ∧ u.oneCell' = true ∧ y = ofCell u := by
      intro i y hy
      rw [List.getElem?_map] at hy
      cases hc : cs.toList[i]? with
      | none => simp [hc] at hy
      | some u =>
        simp only [hc, Option.map_some, Option.some.injEq] at hy
        exact ⟨u, by simpa using hc, List.all_eq_true.1 hb u (List.mem_of_getElem? hc), hy.symm⟩
    refine .agg cs _ (fun i => cs.getD i undef) (by simp) (fun i y hy => ?_) (fun i y hy => ?_) (fun i y hy => ?_)
    all_goals obtain ⟨u, h1, h2, rfl⟩ := key i y hy
    · simp [h1]
    · simp [h1, h2]
    · simp [h1]
      exact rep_ofCell ..
  · exact rep_ofCell ..

def nth (xs : List AV) (i : Nat) : AV := xs.getD i .undef

/-! ### Memory: the cells behind an address -/
/-- From cell off of block g on stand cs. -/
def CellsAt (W : World) (D : Nat → Nat → Prop) (β : Nat → Option Nat) (g off : Nat) (cs : List AV) : Prop :=
  ∀ (k : Nat) (y : AV), cs[k]? = some y → ∃ u, W.cell? ⟨g, off + k, none⟩ = some u ∧ u.oneCell' = true ∧ Rep W D β u y
theorem CellsAt.drop {W : World} {D : Nat → Nat → Prop} {β : Nat → Option Nat} {g off : Nat} {cs : List AV} (h : CellsAt W D β g off cs) (j : Nat) : CellsAt W D β g (off + j) (cs.drop j) := by
  intro k y hy
  rw [List.getElem?_drop] at hy
  obtain ⟨u, h1, h2⟩ := h _ _ hy
  exact ⟨u, by rw [Nat.add_assoc]; exact h1, h2⟩

/-- What lies behind an address: its cells. -/
def Behind (W : World) (D : Nat → Nat → Prop) (β : Nat → Option Nat) (v : Value) (cs : List AV) : Prop :=
  ∃ g off, v = .pointer (some ⟨g, off, none⟩) ∧ CellsAt W D β g off cs

/-- The cells behind a pointer, and when they are known. -/
def behind (st : List Root) : AV → Prop × List AV
  | .dptr _ cs => (True, cs)
  | .ptr r w i j => match st[r]? with
    | some (.box _ cs) => (i = 0, cs.drop j)
    | some (.row _ w' xs) => (w = w' ∧ i < xs.length, (nth xs i).cells.drop j)
    | _ => (False, [])
  | _ => (False, [])

theorem nth_some {xs : List AV} {i : Nat} (h : i < xs.length) : xs[i]? = some (nth xs i) := by
  simp [nth, List.getD_eq_getElem?_getD, List.getElem?_eq_getElem h]

theorem behind_ok {W : World} {D : Nat → Nat → Prop} {β : Nat → Option Nat} {st : List Root} {v : Value} {x : AV} (hs : ∀ r R, st[r]? = some R → RootOk W D β r R) (h : Rep W D β v x) (hc : (behind st x).1) : Behind W D β v (behind st x).2 := by
  cases x <;> simp only [behind] at hc ⊢ <;> try exact hc.elim
  case dptr τ cs =>
    cases h with
    | data _ _ hd =>
      cases hd with
      | dptr a τ cs u hs hD hu hr =>
        refine ⟨a.block, a.off, by cases a; simp_all, fun k y hy => ⟨u k, hu k y hy, (hr k y hy).oneCell, .data _ _ (hr k y hy)⟩⟩
  case ptr r w i j =>
    cases h with
    | data _ _ hd => cases hd
    | ptr _ _ _ _ g hg =>
      cases hr : st[r]? with
      | none => simp [hr] at hc
      | some R =>
        have hR := hs r R hr
        cases R with
        | gone => simp [hr] at hc
        | mp kv => simp [hr] at hc
        | box t cs =>
          simp only [hr] at hc ⊢
          subst hc
          obtain ⟨g', cur, h1, h2, h3, h4⟩ := hR
          obtain rfl : g' = g := by rw [hg] at h1; injection h1 with h1; exact h1.symm
          refine ⟨g', 0 * w + j, rfl, ?_⟩
          rw [Nat.zero_mul, Nat.zero_add]
          intro k y hy
          rw [List.getElem?_drop] at hy
          obtain ⟨u, k1, k2, k3⟩ := h4 _ _ hy
          exact ⟨u, by rw [cell_of_row W g' _ cur t (0, 0) h2]; exact k1, k2, k3⟩
        | row t w' xs =>
          simp only [hr] at hc ⊢
          obtain ⟨rfl, hi⟩ := hc
          rcases hR with ⟨_, rfl⟩ | ⟨g', cur, h1, h2, h3⟩
          · simp at hi
          obtain rfl : g' = g := by rw [hg] at h1; injection h1 with h1; exact h1.symm
          refine ⟨g', i * w + j, rfl, fun k y hy => ?_⟩
          rw [List.getElem?_drop] at hy
          obtain ⟨_, h4⟩ := h3 i _ (nth_some hi)
          obtain ⟨u, k1, k2⟩ := h4 _ _ hy
          exact ⟨u, by rw [cell_of_row W g' _ cur t (0, 0) h2, Nat.add_assoc]; exact k1, k2.oneCell, .data _ _ k2⟩
theorem RepD.noNames {W : World} {D : Nat → Nat → Prop} {v : Value} {x : AV} {q : Nat} (h : RepD W D v x) : ¬ Names x q := by
  induction h with
  | fn f vs caps u hl hu _ ih =>
    intro hn
    cases hn with
    | fn _ _ y _ hy hn =>
      obtain ⟨i, hi⟩ := List.mem_iff_getElem?.1 hy
      exact ih i y hi hn
  | _ => intro hn; cases hn

theorem behind_names {W : World} {D : Nat → Nat → Prop} {β : Nat → Option Nat} {st : List Root} {v : Value} {x : AV} (hs : ∀ r R, st[r]? = some R → RootOk W D β r R) (hb : ∀ (r t : Nat) (cs : List AV) (y : AV) (q : Nat), st[r]? = some (Root.box t cs) → y ∈ cs → Names y q → q < st.length) (h : Rep W D β v x) (hc : (behind st x).1) {y : AV} {q : Nat} (hy : y ∈ (behind st x).2) (hn : Names y q) : q < st.length := by
  cases x <;> simp only [behind] at hc hy <;> try exact hc.elim
  case dptr τ cs =>
    cases h with
    | data _ _ hd =>
      cases hd with
      | dptr a τ cs u hs hD hu hr =>
        obtain ⟨i, hi⟩ := List.mem_iff_getElem?.1 hy
        exact absurd hn (hr i y hi).noNames
  case ptr r w i j =>
    cases hr : st[r]? with
    | none => simp [hr] at hc
    | some R =>
      have hR := hs r R hr
      cases R with
      | gone => simp [hr] at hc
      | mp kv => simp [hr] at hc
      | box t cs =>
        simp only [hr] at hc hy
        exact hb r t cs y q hr (List.mem_of_mem_drop hy) hn
      | row t w' xs =>
        simp only [hr] at hc hy
        obtain ⟨rfl, hi⟩ := hc
        rcases hR with ⟨_, rfl⟩ | ⟨g', cur, h1, h2, h3⟩
        · simp at hi
        obtain ⟨_, h4⟩ := h3 i _ (nth_some hi)
        obtain ⟨k, hk⟩ := List.mem_iff_getElem?.1 (List.mem_of_mem_drop hy)
        obtain ⟨u, _, hd⟩ := h4 k y hk
        exact absurd hn hd.noNames

/-- Loading a variable of type t whose cells are cs. -/
def ldv (P : Program) (t : Nat) (cs : List AV) : OpR :=
  match tyOf P t with
  | .agg => ⟨P.cellsOf t ≤ cs.length, .agg (cs.take (P.cellsOf t))⟩
  | .other => .no
  | _ => ⟨0 < cs.length, cs.headD .undef⟩

theorem add_none (g off j : Nat) : (⟨g, off, none⟩ : Addr).add j = ⟨g, off + j, none⟩ := by unfold Addr.add; split <;> simp_all

theorem run_isAgg {P : Program} {t : Nat} (W : World) (h : tyOf P t ≠ .other) : (isAgg t).run P W = .ok (match tyOf P t with | .agg => true | _ => false) W := by
  obtain ⟨d, hd⟩ := tyOf_some h
  simp only [isAgg, Sem.run_bind, run_underlying hd, Result.andThen_ok]
  unfold tyOf at h ⊢
  rw [hd] at h ⊢
  cases d <;> simp at h ⊢

theorem load_ok {P : Program} {W : World} {D : Nat → Nat → Prop} {β : Nat → Option Nat} {v : Value} {cs : List AV} {t : Nat} (h : Behind W D β v cs) (hc : (ldv P t cs).c) :
    ∃ u, (Instr.loadAt t v).run P W = .ok u W ∧ Rep W D β u (ldv P t cs).v := by
  obtain ⟨g, off, rfl, hcs⟩ := h
  have hne : tyOf P t ≠ .other := fun e => by simp [ldv, e, OpR.no] at hc
  have hag := run_isAgg W hne
  obtain ⟨d, hd⟩ := tyOf_some hne
  have hsz := run_sizeOf hd W
  cases ht : tyOf P t
  case other => exact absurd ht hne
  case agg =>
    simp only [ldv, ht] at hc ⊢
    let f : Nat → Value := fun j => (W.cell? ⟨g, off + j, none⟩).getD undef
    have key : ∀ j, j < P.cellsOf t → ∃ y u, cs[j]? = some y ∧ W.cell? ⟨g, off + j, none⟩ = some u ∧ u.oneCell' = true ∧ Rep W D β u y := fun j hj => by
      obtain ⟨u, h1, h2, h3⟩ := hcs j _ (List.getElem?_eq_getElem (by omega))
      exact ⟨_, u, List.getElem?_eq_getElem (by omega), h1, h2, h3⟩
    have hl := run_loadCells (P := P) W ⟨g, off, none⟩ (P.cellsOf t) f (fun j hj => by
      obtain ⟨y, u, _, h2, _⟩ := key j hj
      rw [add_none, h2]; simp [f, h2])
    refine ⟨.agg ((List.range (P.cellsOf t)).map f).toArray, ?_, ?_⟩
    · simp [Instr.loadAt, Instr.sureAddr, loadVar, hag, ht, hsz, hl]
    · have hlen : (cs.take (P.cellsOf t)).length = P.cellsOf t := by rw [List.length_take]; omega
      refine .agg _ _ f (by simp [hlen]) (fun i y hy => ?_) (fun i y hy => ?_) (fun i y hy => ?_)
      all_goals
        have hi : i < P.cellsOf t := by have := (List.getElem?_eq_some_iff.1 hy).1; omega
        obtain ⟨y', u, h1, h2, h3, h4⟩ := key i hi
      · simp [hi]
      · simp [f, h2, h3]
      · rw [List.getElem?_take, if_pos hi, h1] at hy
        injection hy with hy
        subst hy
        simp [f, h2, h4]
  all_goals
    simp only [ldv, ht] at hc ⊢
    obtain ⟨u, h1, h2, h3⟩ := hcs 0 _ (List.getElem?_eq_getElem hc)
    refine ⟨u, ?_, ?_⟩
    · simp only [Nat.add_zero] at h1
      simp [Instr.loadAt, Instr.sureAddr, loadVar, hag, ht, h1]
    · cases cs with
      | nil => simp at hc
      | cons c cs => exact h3

/-- The address of a field. -/
def vField (P : Program) (s f : Nat) (x : AV) : OpR :=
  match fld P s f with
  | some (off, ft) => match x with
    | .dptr τ cs => ⟨P.cellsOf ft ≠ 0, .dptr τ (cs.drop off)⟩
    | .ptr r w i j => ⟨P.cellsOf ft ≠ 0, .ptr r w i (j + off)⟩
    | _ => .no
  | none => .no
theorem vField_ok {P : Program} {W : World} {D : Nat → Nat → Prop} {β : Nat → Option Nat} {v : Value} {x : AV} {s f : Nat} (h : Rep W D β v x) (hc : (vField P s f x).c) :
    ∃ u, (Instr.fieldAt s v f).run P W = .ok u W ∧ Rep W D β u (vField P s f x).v := by
  unfold vField at hc ⊢
  cases hf : fld P s f with
  | none => simp [hf, OpR.no] at hc
  | some p =>
    obtain ⟨off, ft⟩ := p
    simp only [hf] at hc ⊢
    unfold fld at hf
    split at hf <;> try cases hf
    rename_i fs hu
    cases hfs : fs[f]? with
    | none => simp [hfs] at hf
    | some fl =>
      simp only [hfs, Option.map_some, Option.some.injEq, Prod.mk.injEq] at hf
      obtain ⟨rfl, rfl⟩ := hf
      cases x <;> simp only at hc ⊢ <;> try exact hc.elim
      case dptr τ cs =>
        have hi : (P.info? fl.type).isSome = true := by
          cases h0 : P.info? fl.type with
          | none => simp [Program.cellsOf, h0] at hc
          | some i => rfl
        cases h with
        | data _ _ hd =>
          cases hd with
          | dptr a τ cs u hs hD hu2 hr =>
            refine ⟨.pointer (some (a.add fl.offset)), ?_, ?_⟩
            · simp [Instr.fieldAt, run_underlying hu, hfs, Instr.sureAddr, fieldPlace, run_sizeOf' hi, hc]
            · have ha : a.add fl.offset = ⟨a.block, a.off + fl.offset, none⟩ := by
                cases a; simp only at hs; subst hs; exact add_none ..
              rw [ha]
              refine .data _ _ (.dptr _ τ _ (fun j => u (fl.offset + j)) rfl hD (fun j y hy => ?_) (fun j y hy => ?_))
              · rw [List.getElem?_drop] at hy
                have := hu2 _ _ hy
                simpa [Nat.add_assoc] using this
              · rw [List.getElem?_drop] at hy
                exact hr _ _ hy
      case ptr r w i j =>
        have hi : (P.info? fl.type).isSome = true := by
          cases h0 : P.info? fl.type with
          | none => simp [Program.cellsOf, h0] at hc
          | some i => rfl
        cases h with
        | data _ _ hd => cases hd
        | ptr _ _ _ _ g hg =>
          refine ⟨.pointer (some ⟨g, i * w + (j + fl.offset), none⟩), ?_, .ptr r w i (j + fl.offset) g hg⟩
          simp [Instr.fieldAt, run_underlying hu, hfs, Instr.sureAddr, fieldPlace, run_sizeOf' hi, hc, add_none, Nat.add_assoc]

/-- The address of an element. -/
def vIndexAddr (P : Program) (t : Nat) (x i : AV) : OpR :=
  match tyOf P t, x, i with
  | .sl e, .sl τ w xs, .int _ n => ⟨P.cellsOf e = w ∧ (P.info? e).isSome = true ∧ 0 ≤ n ∧ n < xs.length, .dptr τ (nth xs n.toNat).cells⟩
  | .sl e, .osl r w off len, .int _ n => ⟨P.cellsOf e = w ∧ (P.info? e).isSome = true ∧ 0 ≤ n ∧ n < len, .ptr r w (off + n.toNat) 0⟩
  | _, _, _ => .no
theorem vIndexAddr_ok {P : Program} {W : World} {D : Nat → Nat → Prop} {β : Nat → Option Nat} {v vi : Value} {x i : AV} {t : Nat} (h : Rep W D β v x) (hi : Rep W D β vi i) (hc : (vIndexAddr P t x i).c) :
    ∃ u, (Instr.indexAt t v vi).run P W = .ok u W ∧ Rep W D β u (vIndexAddr P t x i).v := by
  unfold vIndexAddr at hc ⊢
  split at hc
  · rename_i e τ w xs k n ht
    obtain ⟨rfl, he, h0, h1⟩ := hc
    have hu := tyOf_sl ht
    cases hi with
    | data _ _ hd =>
    cases hd
    cases h with
    | data _ _ hd =>
    cases hd with
    | sl0 A cap => simp at h1; omega
    | sl a cap τ w xs u hs hD hcap hm hw hu2 hr =>
      have hb : a.add (n.toNat * P.cellsOf e) = ⟨a.block, a.off + n.toNat * P.cellsOf e, none⟩ := by
        cases a; simp only at hs; subst hs; exact add_none ..
      have hlt : n.toNat < xs.length := by omega
      refine ⟨.pointer (some (a.add (n.toNat * P.cellsOf e))), ?_, ?_⟩
      · simp [Instr.indexAt, run_underlying hu, asIntOf, h0, h1, run_sizeOf' he]
      · simp only [ht]
        rw [hb]
        refine .data _ _ (.dptr _ τ _ (fun j => u n.toNat j) rfl hD (fun j y hy => ?_) (fun j y hy => ?_))
        · have := hu2 n.toNat _ j y (nth_some hlt) hy
          simpa [Nat.add_assoc] using this
        · exact hr n.toNat _ j y (nth_some hlt) hy
  · rename_i e r w off len k n ht
    obtain ⟨rfl, he, h0, h1⟩ := hc
    have hu := tyOf_sl ht
    cases hi with
    | data _ _ hd =>
    cases hd
    cases h with
    | data _ _ hd => cases hd
    | osl _ _ _ _ _ ho =>
      rcases ho with ⟨_, _, _, rfl⟩ | ⟨g, cap, t', cur, hg, rfl, hh, hcs, hcm, hlc⟩
      · simp at h1; omega
      · refine ⟨.pointer (some ⟨g, (off + n.toNat) * P.cellsOf e + 0, none⟩), ?_, ?_⟩
        · simp [Instr.indexAt, run_underlying hu, asIntOf, h0, h1, run_sizeOf' he, add_none, Nat.add_mul]
        · simp only [ht]
          exact .ptr r _ _ 0 g hg
  · exact hc.elim

/-! ### Arithmetic and comparisons -/
def vbits (op : BinOp) (k : IntKind) (x y : Int) : Int :=
  match op with
  | .and => k.wrap (BitVec.ofInt k.bits x &&& BitVec.ofInt k.bits y).toNat
  | .or => k.wrap (BitVec.ofInt k.bits x ||| BitVec.ofInt k.bits y).toNat
  | .xor => k.wrap (BitVec.ofInt k.bits x ^^^ BitVec.ofInt k.bits y).toNat
  | _ => k.wrap (BitVec.ofInt k.bits x &&& ~~~BitVec.ofInt k.bits y).toNat
/-- Two values are one, cell by cell. -/
def cellEq : AV → AV → Option Bool
  | .int k a, .int k' b => if k = k' then some (decide (a = b)) else none
  | .bool a, .bool b => some (a == b)
  | .str a, .str b => some (decide (a = b))
  | _, _ => none
def cellsEq : List AV → List AV → Option Bool
  | [], [] => some true
  | x :: xs, y :: ys => match cellEq x y, cellsEq xs ys with
    | some a, some b => some (a && b)
    | _, _ => none
  | _, _ => none
def vIntBin (op : BinOp) (k : IntKind) (a b : Int) : OpR :=
  match op with
  | .add => ⟨True, .int k (k.wrap (a + b))⟩
  | .sub => ⟨True, .int k (k.wrap (a - b))⟩
  | .mul => ⟨True, .int k (k.wrap (a * b))⟩
  | .quo => ⟨b ≠ 0, .int k (k.wrap (a.tdiv b))⟩
  | .rem => ⟨b ≠ 0, .int k (a.tmod b)⟩
  | .and => ⟨True, .int k (vbits .and k a b)⟩
  | .or => ⟨True, .int k (vbits .or k a b)⟩
  | .xor => ⟨True, .int k (vbits .xor k a b)⟩
  | .andNot => ⟨True, .int k (vbits .andNot k a b)⟩
  | .eql => ⟨True, .bool (decide (a = b))⟩
  | .neq => ⟨True, .bool (!decide (a = b))⟩
  | .lss => ⟨True, .bool (decide (a < b))⟩
  | .leq => ⟨True, .bool (decide (a ≤ b))⟩
  | .gtr => ⟨True, .bool (decide (b < a))⟩
  | .geq => ⟨True, .bool (decide (b ≤ a))⟩
  | .shl => .no
  | .shr => .no
def vStrBin (op : BinOp) (a b : ByteArray) : OpR :=
  match op with
  | .add => ⟨a.size + b.size ≤ 9223372036854775807, .str (a ++ b)⟩
  | .eql => ⟨True, .bool (decide (a = b))⟩
  | .neq => ⟨True, .bool (!decide (a = b))⟩
  | .lss => ⟨True, .bool (Op.bytesLess a.toList b.toList)⟩
  | .gtr => ⟨True, .bool (!(Op.bytesLess a.toList b.toList || a.toList == b.toList))⟩
  | .leq => ⟨True, .bool (Op.bytesLess a.toList b.toList || a.toList == b.toList)⟩
  | .geq => ⟨True, .bool (!Op.bytesLess a.toList b.toList)⟩
  | _ => .no
/-- The kinds of a type's cells, flat: what 'equal' looks at, in order; none where the engine does not follow. -/
def AV.kind : AV → Nat
  | .int _ _ => 0
  | .bool _ => 1
  | .str _ => 2
  | _ => 3
def flatFs (g : Nat → Option (List Nat)) : List Field → Nat → Option (List Nat)
  | [], _ => some []
  | f :: fs, n => if f.offset = n ∧ f.name ≠ "_" then
      match g f.type with
      | some m => (flatFs g fs (n + m.length)).map (m ++ ·)
      | none => none
    else none
def flatEq (P : Program) : Nat → Nat → Option (List Nat)
  | 0, _ => none
  | d + 1, t =>
    match tyOf P t with
    | .int _ => if P.cellsOf t = 1 then some [0] else none
    | .bool => if P.cellsOf t = 1 then some [1] else none
    | .str => if P.cellsOf t = 1 then some [2] else none
    | .agg => if P.stoodInHeld t then none else match flatFs (flatEq P d) (P.fieldsOf t).toList 0 with
      | some n => if P.cellsOf t = n.length then some n else none
      | none => none
    | _ => none
def eqOk (P : Program) (t : Nat) (ks : List Nat) : Bool := (flatEq P 20 t == some ks) && !P.eqGuardType P.depth t && (match tyOf P t with | .agg => true | _ => false)
def vbin (P : Program) (op : BinOp) (t : Nat) (x y : AV) : OpR :=
  match x, y with
  | .int k a, .int k' b => match op with
    | .shl => ⟨0 ≤ b, .int k (k.wrap (a * 2 ^ min b.toNat k.bits))⟩
    | .shr => ⟨0 ≤ b, .int k (a.fdiv (2 ^ min b.toNat k.bits))⟩
    | op => let r := vIntBin op k a b; ⟨k = k' ∧ r.c, r.v⟩
  | .str a, .str b => vStrBin op a b
  | .bool a, .bool b => match op with
    | .eql => ⟨tyOf P t = .bool, .bool (a == b)⟩
    | .neq => ⟨tyOf P t = .bool, .bool (!(a == b))⟩
    | _ => .no
  | .agg xs, .agg ys => match op, cellsEq xs ys with
    | .eql, some b => ⟨eqOk P t (xs.map AV.kind) = true, .bool b⟩
    | .neq, some b => ⟨eqOk P t (xs.map AV.kind) = true, .bool (!b)⟩
    | _, _ => .no
  | .nilp, .nilp => match op with
    | .eql => ⟨tyOf P t = .ptr, .bool true⟩
    | .neq => ⟨tyOf P t = .ptr, .bool false⟩
    | _ => .no
  | .dptr _ _, .nilp | .ptr _ _ _ _, .nilp => match op with
    | .eql => ⟨tyOf P t = .ptr, .bool false⟩
    | .neq => ⟨tyOf P t = .ptr, .bool true⟩
    | _ => .no
  | _, _ => .no

theorem cellsEq_append {a b : List AV} : ∀ {xs ys : List AV} {r : Bool}, xs.length = ys.length → cellsEq (xs ++ a) (ys ++ b) = some r → ∃ p q, cellsEq xs ys = some p ∧ cellsEq a b = some q ∧ r = (p && q)
  | [], [], r, _, h => ⟨true, r, rfl, h, by simp⟩
  | x :: xs, y :: ys, r, hl, h => by
    simp only [List.cons_append, cellsEq] at h ⊢
    cases hc : cellEq x y with
    | none => simp [hc] at h
    | some c =>
      cases he : cellsEq (xs ++ a) (ys ++ b) with
      | none => simp [hc, he] at h
      | some d =>
        simp only [hc, he, Option.some.injEq] at h
        subst h
        obtain ⟨p, q, h1, h2, h3⟩ := cellsEq_append (by simpa using hl) he
        exact ⟨c && p, q, by simp [h1], h2, by rw [h3, Bool.and_assoc]⟩
  | [], _ :: _, _, hl, _ => by simp at hl
  | _ :: _, [], _, hl, _ => by simp at hl
theorem cellsEq_len : ∀ {xs ys : List AV} {r : Bool}, cellsEq xs ys = some r → xs.length = ys.length
  | [], [], _, _ => rfl
  | x :: xs, y :: ys, r, h => by
    simp only [cellsEq] at h
    cases hc : cellEq x y <;> cases he : cellsEq xs ys <;> simp [hc, he] at h
    simp [cellsEq_len he]
  | [], _ :: _, _, h => by simp [cellsEq] at h
  | _ :: _, [], _, h => by simp [cellsEq] at h

section
variable {P : Program} {W : World} {D : Nat → Nat → Prop} {β : Nat → Option Nat}
theorem rep_int {v : Value} {k : IntKind} {n : Int} (h : Rep W D β v (.int k n)) : v = .int k n := by cases h with | data _ _ h => cases h; rfl
theorem rep_bool {v : Value} {b : Bool} (h : Rep W D β v (.bool b)) : v = .bool b := by cases h with | data _ _ h => cases h; rfl
theorem rep_str {v : Value} {b : ByteArray} (h : Rep W D β v (.str b)) : v = .string b := by cases h with | data _ _ h => cases h; rfl
theorem rep_nilp {v : Value} (h : Rep W D β v .nilp) : v = .pointer none := by cases h with | data _ _ h => cases h; rfl
theorem toList_eq_iff (a b : ByteArray) : (a.toList == b.toList) = decide (a = b) := by
  by_cases h : a = b
  · subst h; simp
  · have : ¬ a.toList = b.toList := fun e => h (by
      rw [ByteArray.toList_eq, ByteArray.toList_eq] at e
      cases a; cases b; simp only [ByteArray.mk.injEq]; exact Array.toList_inj.1 e)
    simp [h, this]

theorem equal_scalar {t : Nat} {x y : Value} {a b : AV} {r : Bool} (d : Nat) (hx : Rep W D β x a) (hy : Rep W D β y b) (hr : cellEq a b = some r)
    (hty : (a.kind = 0 ∧ ∃ k, tyOf P t = .int k) ∨ (a.kind = 1 ∧ tyOf P t = .bool) ∨ (a.kind = 2 ∧ tyOf P t = .str)) :
    (Op.equalIn (d + 1) t x y).run P W = .ok r W := by
  cases a <;> cases b <;> simp only [cellEq] at hr <;> try cases hr
  · rename_i k m k' n
    split at hr <;> try cases hr
    rename_i hk
    subst hk
    obtain rfl := rep_int hx
    obtain rfl := rep_int hy
    simp [AV.kind] at hty
    obtain ⟨k0, hk0⟩ := hty
    rw [run_equalIn_int W d t k k0 m n (tyOf_int hk0)]
    congr 1
  · rename_i m n
    obtain rfl := rep_bool hx
    obtain rfl := rep_bool hy
    simp [AV.kind] at hty
    exact run_equalIn_bool' W d t m n (tyOf_bool hty)
  · rename_i m n
    obtain rfl := rep_str hx
    obtain rfl := rep_str hy
    simp [AV.kind] at hty
    rw [run_equalIn_string W d t m n (tyOf_str hty), toList_eq_iff]

/-- The cells of a value of a type that is compared cell by cell. -/
def CellsOf (W : World) (D : Nat → Nat → Prop) (β : Nat → Option Nat) (P : Program) (t : Nat) (v : Value) (cs : List AV) : Prop :=
  (tyOf P t = .agg ∧ ∃ vs : Array Value, v = .agg vs ∧ vs.size = cs.length ∧ ∀ (i : Nat) (y : AV), cs[i]? = some y → ∃ u, vs[i]? = some u ∧ Rep W D β u y) ∨
  (tyOf P t ≠ .agg ∧ ∃ y, cs = [y] ∧ Rep W D β v y)

theorem cells_of_eq {xs ys : List AV} {r : Bool} (h : cellsEq xs ys = some r) : xs.map AV.kind = ys.map AV.kind := by
  induction xs generalizing ys r with
  | nil => cases ys <;> simp [cellsEq] at h ⊢
  | cons x xs ih =>
    cases ys with
    | nil => simp [cellsEq] at h
    | cons y ys =>
      simp only [cellsEq] at h
      cases hc : cellEq x y <;> cases he : cellsEq xs ys <;> simp [hc, he] at h
      simp only [List.map_cons, ih he, List.cons.injEq, and_true]
      cases x <;> cases y <;> simp [cellEq] at hc <;> rfl

theorem equal_flat : ∀ (d t : Nat) (ks : List Nat), flatEq P d t = some ks → ∀ (e : Nat) (x y : Value) (ax ay : List AV) (r : Bool), d ≤ e → ax.map AV.kind = ks → CellsOf W D β P t x ax → CellsOf W D β P t y ay → cellsEq ax ay = some r →
    (Op.equalIn e t x y).run P W = .ok r W
  | 0, t, ks, h, _, _, _, _, _, _, _, _, _, _, _ => by simp [flatEq] at h
  | d + 1, t, ks, h, e, x, y, ax, ay, r, hde, hk, hx, hy, hr => by
    obtain ⟨e, rfl⟩ : ∃ e', e = e' + 1 := ⟨e - 1, by omega⟩
    simp only [flatEq] at h
    have scal : ∀ (q : Nat), ks = [q] → tyOf P t ≠ .agg → ((q = 0 ∧ ∃ k, tyOf P t = .int k) ∨ (q = 1 ∧ tyOf P t = .bool) ∨ (q = 2 ∧ tyOf P t = .str)) → (Op.equalIn (e + 1) t x y).run P W = .ok r W := by
      intro q hq hne hty
      rcases hx with ⟨h1, _⟩ | ⟨_, a, rfl, ha⟩
      · exact absurd h1 hne
      rcases hy with ⟨h1, _⟩ | ⟨_, b, rfl, hb⟩
      · exact absurd h1 hne
      have hr' : cellEq a b = some r := by
        simp only [cellsEq] at hr
        cases hc : cellEq a b <;> simp [hc] at hr
        simp [hr]
      refine equal_scalar e ha hb hr' ?_
      subst hq
      simp at hk
      rw [hk]
      exact hty
    cases ht : tyOf P t <;> simp only [ht] at h <;> try cases h
    case int k =>
      split at h <;> try cases h
      exact scal 0 rfl (by simp [ht]) (.inl ⟨rfl, k, ht⟩)
    case bool =>
      split at h <;> try cases h
      exact scal 1 rfl (by simp [ht]) (.inr (.inl ⟨rfl, ht⟩))
    case str =>
      split at h <;> try cases h
      exact scal 2 rfl (by simp [ht]) (.inr (.inr ⟨rfl, ht⟩))
    case agg =>
      split at h <;> try cases h
      rename_i hst
      split at h <;> try cases h
      rename_i n hfl
      split at h <;> try cases h
      rename_i hsz
      rcases hx with ⟨_, vx, rfl, hvx, hxs⟩ | ⟨h1, _⟩
      rotate_left
      · exact absurd ht h1
      rcases hy with ⟨_, vy, rfl, hvy, hys⟩ | ⟨h1, _⟩
      rotate_left
      · exact absurd ht h1
      obtain ⟨fs0, hu⟩ := tyOf_agg ht
      have hfo : P.underlying t = some (.struct (P.fieldsOf t)) := by simp [Program.fieldsOf, hu]
      rw [run_equalIn_struct W e t vx vy hfo (by simpa using hst)]
      have hlxy := cellsEq_len hr
      have key : ∀ (fs : List Field) (n : Nat) (ks : List Nat) (bx byy : List AV) (r : Bool), flatFs (flatEq P d) fs n = some ks → bx.map AV.kind = ks → cellsEq bx byy = some r →
          (∀ (i : Nat) (z : AV), bx[i]? = some z → ∃ u, vx[n + i]? = some u ∧ Rep W D β u z) → (∀ (i : Nat) (z : AV), byy[i]? = some z → ∃ u, vy[n + i]? = some u ∧ Rep W D β u z) → vx.size = n + bx.length → vy.size = n + byy.length →
          (Op.eqFields e vx vy fs).run P W = .ok r W := by
        intro fs
        induction fs with
        | nil =>
          intro n ks bx byy r hf hk hr _ _ _ _
          simp only [flatFs, Option.some.injEq] at hf
          subst hf
          have : bx = [] := by simpa using hk
          subst this
          have hl := cellsEq_len hr
          have : byy = [] := List.eq_nil_of_length_eq_zero (by simpa using hl.symm)
          subst this
          simp only [cellsEq, Option.some.injEq] at hr
          subst hr
          simp [Op.eqFields]
        | cons f fs ih =>
          intro n ks bx byy r hf hk hr hbx hby hnx hny
          simp only [flatFs] at hf
          split at hf <;> try cases hf
          rename_i hfo
          obtain ⟨hoff, hname⟩ := hfo
          cases hg : flatEq P d f.type with
          | none => simp [hg] at hf
          | some m =>
            simp only [hg, Option.map_eq_some_iff] at hf
            obtain ⟨ks', hf', rfl⟩ := hf
            have hml : m.length ≤ bx.length := by
              have : (bx.map AV.kind).length = (m ++ ks').length := by rw [hk]
              simp at this; omega
            have hlb := cellsEq_len hr
            rw [← List.take_append_drop m.length bx, ← List.take_append_drop m.length byy] at hr
            obtain ⟨p, q, hp, hq, rfl⟩ := cellsEq_append (by rw [List.length_take, List.length_take]; omega) hr
            have hk1 : (bx.take m.length).map AV.kind = m := by rw [List.map_take, hk, List.take_left']; rfl
            have hk2 : (bx.drop m.length).map AV.kind = ks' := by rw [List.map_drop, hk, List.drop_left']; rfl
            have hd : ∃ dd, d = dd + 1 := by
              cases d with
              | zero => simp [flatEq] at hg
              | succ dd => exact ⟨dd, rfl⟩
            -- the part
            have part_ok : ∀ (vs : Array Value) (bs : List AV), (∀ (i : Nat) (z : AV), bs[i]? = some z → ∃ u, vs[n + i]? = some u ∧ Rep W D β u z) → vs.size = n + bs.length → m.length ≤ bs.length →
                ∃ u, (part f.type vs f.offset).run P W = .ok u W ∧ CellsOf W D β P f.type u (bs.take m.length) := by
              intro vs bs hb hvs hle
              obtain ⟨dd, rfl⟩ := hd
              have hne : tyOf P f.type ≠ .other := fun e0 => by simp [flatEq, e0] at hg
              have hag := run_isAgg W hne
              obtain ⟨d0, hd0⟩ := tyOf_some hne
              have hsz := run_sizeOf hd0 W
              have hcs : P.cellsOf f.type = m.length := by
                simp only [flatEq] at hg
                cases htf : tyOf P f.type <;> simp only [htf] at hg <;> try cases hg
                case agg =>
                  split at hg <;> try cases hg
                  split at hg <;> try cases hg
                  split at hg <;> try cases hg
                  rename_i _ _ h0
                  exact h0
                all_goals
                  split at hg <;> try cases hg
                  rename_i h0
                  exact h0
              cases htf : tyOf P f.type
              case agg =>
                refine ⟨.agg (vs.extract n (n + m.length)), ?_, .inl ⟨htf, _, rfl, by simp; omega, fun i z hz => ?_⟩⟩
                · simp [part, hag, htf, hsz, hcs, hoff]
                · have hi : i < m.length := by
                    have := (List.getElem?_eq_some_iff.1 hz).1
                    rw [List.length_take] at this; omega
                  rw [List.getElem?_take, if_pos hi] at hz
                  obtain ⟨u, h1, h2⟩ := hb i z hz
                  have : n + i < vs.size := (Array.getElem?_eq_some_iff.1 h1).1
                  refine ⟨u, ?_, h2⟩
                  rw [Array.getElem?_extract]
                  rw [if_pos (by omega)]
                  exact h1
              all_goals
                have hm1 : m.length = 1 := by
                  simp only [flatEq, htf] at hg
                  first
                    | (split at hg <;> cases hg; rfl)
                    | cases hg
                obtain ⟨u, h1, h2⟩ := hb 0 _ (List.getElem?_eq_getElem (by omega))
                simp only [Nat.add_zero] at h1
                refine ⟨u, by simp [part, hag, htf, hoff, h1], .inr ⟨by simp [htf], _, ?_, h2⟩⟩
                rw [hm1] at hle ⊢
                cases bs with
                | nil => exact absurd hle (by simp)
                | cons z zs => rfl
            obtain ⟨ux, hux, hcx⟩ := part_ok vx bx hbx hnx hml
            obtain ⟨uy, huy, hcy⟩ := part_ok vy byy hby hny (by omega)
            have he := equal_flat d f.type m hg e ux uy _ _ p (by omega) hk1 hcx hcy hp
            have ih' := ih (n + m.length) ks' (bx.drop m.length) (byy.drop m.length) q hf' hk2 hq
              (fun i z hz => by rw [List.getElem?_drop] at hz; have := hbx _ _ hz; rwa [← Nat.add_assoc] at this)
              (fun i z hz => by rw [List.getElem?_drop] at hz; have := hby _ _ hz; rwa [← Nat.add_assoc] at this)
              (by rw [List.length_drop]; omega) (by rw [List.length_drop]; omega)
            simp only [Op.eqFields, hname, ne_eq, not_false_eq_true, if_true, Sem.run_bind, hux, huy, Result.andThen_ok, he, Sem.run_ite]
            cases p
            · simp
            · simp only [Bool.not_true, Bool.false_eq_true, if_false, Bool.true_and]
              exact ih'
      exact key _ 0 ks ax ay r hfl hk hr (fun i z hz => by simpa using hxs i z hz) (fun i z hz => by simpa using hys i z hz) (by simpa using hvx) (by simpa using hvy)
end

end Go.Ve
