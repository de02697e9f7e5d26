/- The engine, part 23: data of Lean's types as values, and arguments that are read as data. No condition. -/
import Derived.Test.YtfeaokelfbjcdaaE22
import Derived.SizedLaws
import Derived.ChangeSlices
import Derived.ChangeArms
import Derived.Deep.Slices
import Derived.OpenShut
namespace Go.Ve
open Go.RowKit Go.Deep
set_option linter.unusedVariables false
set_option linter.unusedSimpArgs false

/-- Every weight of a datum lies within the reach. -/
def Fits {H : Type} (P : Program) (T : TypeId) (D : DataW H) : Prop := ∀ n ∈ D.weights P T, n ≤ 140737488351232
/-- What cells that read as data of a type say. -/
def Reads (P : Program) (T : TypeId) (Q : World → List Value → Prop) : Prop :=
  ∀ (H : Type) (enc : TypeId × Value → H) (w : World) (base : Nat) (spare : Nat → Bool) (held : Bool) (fuel : Nat) (cs : List Value) (x : DataW H × List MemPlace),
    DataW.trod enc P w base spare held fuel T cs = some x → Fits P T x.1 → Q w cs
theorem weightsAll_mem {H : Type} {P : Program} {e : TypeId} {d : DataW H} {n : Nat} (hn : n ∈ d.weights P e) : ∀ {l : List (DataW H)}, d ∈ l → n ∈ DataW.weightsAll P e l
  | [], h => by cases h
  | a :: l, h => by
    unfold DataW.weightsAll
    rcases List.mem_cons.1 h with rfl | h
    · exact List.mem_append_left _ hn
    · exact List.mem_append_right _ (weightsAll_mem hn h)

theorem addr_add_add (a : Addr) (i j : Nat) : (a.add i).add j = a.add (i + j) := by
  unfold Addr.add
  by_cases hi : i = 0
  · subst hi; simp
  · by_cases hj : j = 0
    · subst hj; simp [hi]
    · have h : ¬ (i = 0 ∧ j = 0) := by omega
      simp [hi, hj, Nat.add_assoc]

/-- Fields in line. -/
def RowQ : List (Nat × (World → List Value → Prop)) → World → List Value → Prop
  | [], _, cs => cs = []
  | (n, Q) :: r, w, cs => ∃ c rest, cs = c ++ rest ∧ c.length = n ∧ Q w c ∧ RowQ r w rest
/-- A struct's fields, each with what its cells say. -/
def FieldsFit (P : Program) (tot : Nat) : List Field → List (Nat × (World → List Value → Prop)) → Nat → Prop
  | [], [], off => off = tot
  | f :: fs, (n, Q) :: r, off => f.offset = off ∧ P.cellsOf f.type = n ∧ Reads P f.type Q ∧ FieldsFit P tot fs r (off + n)
  | _, _, _ => False
theorem FieldsFit.nil {P : Program} {tot off : Nat} (h : off = tot) : FieldsFit P tot [] [] off := h
theorem FieldsFit.cons {P : Program} {tot off n : Nat} {f : Field} {fs : List Field} {Q : World → List Value → Prop} {r : List (Nat × (World → List Value → Prop))} (h0 : f.offset = off) (h1 : P.cellsOf f.type = n) (h2 : Reads P f.type Q) (h3 : FieldsFit P tot fs r (off + n)) : FieldsFit P tot (f :: fs) ((n, Q) :: r) off := ⟨h0, h1, h2, h3⟩
theorem FieldsFit.le {P : Program} {tot : Nat} : ∀ {fs : List Field} {l : List (Nat × (World → List Value → Prop))} {off : Nat}, FieldsFit P tot fs l off → off ≤ tot
  | [], [], off, h => by unfold FieldsFit at h; omega
  | f :: fs, (n, Q) :: r, off, h => by
    unfold FieldsFit at h
    have := FieldsFit.le h.2.2.2
    omega
  | [], _ :: _, _, h => by unfold FieldsFit at h; exact h.elim
  | _ :: _, [], _, h => by unfold FieldsFit at h; exact h.elim
theorem rowQ_of {H : Type} {enc : TypeId × Value → H} {P : Program} {w : World} {base : Nat} {spare : Nat → Bool} {held : Bool} {n tot : Nat} {cs : List Value} (hl : cs.length = tot) :
    ∀ (fs : List Field) (l : List (Nat × (World → List Value → Prop))) (off : Nat) (xs : List (DataW H × List MemPlace)), FieldsFit P tot fs l off → xs.length = fs.length →
      (∀ (i : Nat) (f : Field), fs[i]? = some f → DataW.trod enc P w base spare held n f.type ((cs.drop f.offset).take (P.cellsOf f.type)) = xs[i]?) →
      (∀ q ∈ DataW.weightsEach P (fs.map (·.type)) (xs.map (·.1)), q ≤ 140737488351232) → RowQ l w (cs.drop off)
  | [], [], off, xs, h, _, _, _ => by
    unfold FieldsFit at h
    unfold RowQ
    rw [List.drop_of_length_le (by omega)]
  | f :: fs, (m, Q) :: r, off, xs, h, hlen, ht, hw => by
    unfold FieldsFit at h
    obtain ⟨ho, hm, hr, hf⟩ := h
    have hle := FieldsFit.le hf
    cases xs with
    | nil => simp at hlen
    | cons x xs =>
      unfold RowQ
      have h0 := ht 0 f rfl
      rw [ho, hm] at h0
      refine ⟨(cs.drop off).take m, (cs.drop off).drop m, (List.take_append_drop _ _).symm, by rw [List.length_take, List.length_drop]; omega, ?_, ?_⟩
      · exact hr H enc w base spare held n _ x (by simpa using h0) (fun q hq => hw q (by simp only [List.map_cons, DataW.weightsEach]; exact List.mem_append_left _ hq))
      · rw [List.drop_drop]
        exact rowQ_of hl fs r (off + m) xs hf (by simpa using hlen) (fun i g hg => by simpa using ht (i + 1) g (by simpa using hg)) (fun q hq => hw q (by simp only [List.map_cons, DataW.weightsEach]; exact List.mem_append_right _ hq))
  | [], _ :: _, _, _, h, _, _, _ => by unfold FieldsFit at h; exact h.elim
  | _ :: _, [], _, _, h, _, _, _ => by unfold FieldsFit at h; exact h.elim
theorem reads_struct {P : Program} {T : TypeId} {fs : Array Field} (l : List (Nat × (World → List Value → Prop))) (ht : P.underlying T = some (.struct fs)) (hf : FieldsFit P (P.cellsOf T) fs.toList l 0) : Reads P T (RowQ l) := by
  intro H enc w base spare held fuel cs x hx hfit
  obtain ⟨xs, n, _, rfl, hl, hlen, hg⟩ := DataW.trod_struct ht hx
  have := rowQ_of (enc := enc) (w := w) (base := base) (spare := spare) (held := held) (n := n) hl fs.toList l 0 xs hf (by simpa using hlen) (fun i f hi => hg i f (by simpa using hi)) (fun q hq => hfit q (by simp only [DataW.weights, ht]; exact hq))
  simpa using this
theorem reads_row {P : Program} {T : TypeId} {Q : World → List Value → Prop} (h : Reads P T Q) {H : Type} {enc : TypeId × Value → H} {w : World} {base : Nat} {spare : Nat → Bool} {held : Bool} {v : Value} {d : DataW H} {ps : List MemPlace} {ts : List TypeId} {ds : List (DataW H)} {j : Nat}
    (hsz : (DataW.weightsEach P ts ds).all (· ≤ reachBytes) = true) (ht : ts[j]? = some T) (hd : ds[j]? = some d) (hr : DataW.Trod enc P w base spare held T v d ps) : Q w v.cells.toList := by
  obtain ⟨fuel, hf⟩ := hr
  refine h H enc w base spare held fuel _ _ hf (fun n hn => ?_)
  have := List.all_eq_true.1 hsz _ (DataW.weights_mem_each ht hd n hn)
  have h2 := of_decide_eq_true this
  simpa [reachBytes] using h2

/-! ### Data of Lean's types -/
/-- How data of a type lie in cells: w cells; 'one': a value that is no struct; tot: the elements of all slices in it. -/
structure En (α : Type) where
  w : Nat
  pos : 0 < w
  one : Bool
  cs : Nat → α → List AV
  tot : α → Nat
  dec : List AV → α
  len : ∀ τ x, (cs τ x).length = w
  hone : one = true → w = 1
  dat : ∀ τ x, ∀ y ∈ cs τ x, y.isD = true
  nz : ∀ τ x, τ ≠ 0 → ∀ y ∈ cs τ x, Nz false y
  hdec : ∀ τ x, dec (cs τ x) = x
def En.av {α : Type} (E : En α) (τ : Nat) (x : α) : AV := bif E.one then (E.cs τ x).headD .undef else .agg (E.cs τ x)

section
variable {α : Type} (E : En α)
theorem isD_cells {y : AV} (h : y.isD = true) : y.cells = [y] := by cases y <;> first | rfl | cases h
theorem En.cells (τ : Nat) (x : α) : (E.av τ x).cells = E.cs τ x := by
  unfold En.av
  cases h : E.one
  · rfl
  · have h1 := E.len τ x
    rw [E.hone h] at h1
    have h2 := E.dat τ x
    match hc : E.cs τ x, h1, h2 with
    | [y], _, h2 => exact isD_cells (h2 y (by simp))
theorem isD_emb0 {st : List Root} {m : Nat} {y : AV} (h : y.isD = true) : emb0 st m y = ⟨True, y, []⟩ := by
  cases y <;> simp_all [emb0, AV.isD]
theorem isD_emb {st : List Root} {m : Nat} {y : AV} (h : y.isD = true) : emb st m y = ⟨True, y, []⟩ := by
  cases y <;> first | (cases h; done) | (have h0 := isD_emb0 (st := st) (m := m) h; exact h0)
theorem isD_cvD {st : List Root} {pos : Nat → Option Nat} {y : AV} (h : y.isD = true) : cvD st pos y = (True, y) := by
  cases y <;> first | rfl | cases h
theorem isD_cv0 {st : List Root} {pos : Nat → Option Nat} {y : AV} (h : y.isD = true) : cv0 st pos y = (True, y) := by
  cases y <;> first | rfl | cases h
theorem isD_cv1 {st : List Root} {pos : Nat → Option Nat} {y : AV} (h : y.isD = true) : cv1 st pos y = (True, y) := by
  cases y <;> first | rfl | cases h
theorem map_id_of {f : AV → AV} {l : List AV} (h : ∀ y ∈ l, f y = y) : l.map f = l := by
  induction l with
  | nil => rfl
  | cons y l ih => rw [List.map_cons, h y (List.mem_cons_self ..), ih fun z hz => h z (List.mem_cons_of_mem _ hz)]
/-- The two shapes of a value. -/
theorem En.shape (τ : Nat) (x : α) : ((E.av τ x).isD = true ∧ E.cs τ x = [E.av τ x]) ∨ E.av τ x = .agg (E.cs τ x) := by
  cases h : E.one
  · exact .inr (by simp [En.av, h])
  · refine .inl ?_
    have h1 := E.len τ x
    rw [E.hone h] at h1
    have h2 := E.dat τ x
    simp only [En.av, h, cond_true]
    match hc : E.cs τ x, h1, h2 with
    | [y], _, h2 => exact ⟨h2 y (by simp), rfl⟩
@[go_sem] theorem En.emb (τ : Nat) (x : α) {st : List Root} {m : Nat} : Go.Ve.emb st m (E.av τ x) = ⟨True, E.av τ x, []⟩ := by
  rcases E.shape τ x with ⟨h, _⟩ | h
  · exact isD_emb h
  · rw [h, emb_agg]
    have hd := E.dat τ x
    have h1 : (∀ c ∈ E.cs τ x, (emb0 st m c).c) = True := eq_true fun c hc => by rw [isD_emb0 (hd c hc)]; trivial
    have h2 : ((E.cs τ x).map fun c => (emb0 st m c).v) = E.cs τ x := map_id_of fun y hy => by rw [isD_emb0 (hd y hy)]
    have h3 : ((E.cs τ x).flatMap fun c => (emb0 st m c).rs) = [] := by
      rw [List.flatMap_eq_nil_iff]
      intro y hy
      rw [isD_emb0 (hd y hy)]
    rw [h1, h2, h3]
@[go_sem] theorem En.embT (τ : Nat) (x : α) {st : List Root} {m : Nat} : Go.Ve.embT st m (E.av τ x) = ⟨True, E.av τ x, []⟩ := by
  rw [← E.emb τ x (st := st) (m := m)]
  rcases E.shape τ x with ⟨h, _⟩ | h
  · revert h
    cases E.av τ x <;> intro h <;> first | rfl | cases h
  · rw [h]; rfl
@[go_sem] theorem En.cv (τ : Nat) (x : α) {st : List Root} {pos : Nat → Option Nat} : Go.Ve.cv st pos (E.av τ x) = (True, E.av τ x) := by
  rcases E.shape τ x with ⟨h, _⟩ | h
  · revert h
    cases E.av τ x <;> intro h <;> first | rfl | cases h
  · rw [h, cv_agg]
    have hd := E.dat τ x
    have h1 : (∀ c ∈ E.cs τ x, (cv1 st pos c).1) = True := eq_true fun c hc => by rw [isD_cv1 (hd c hc)]; trivial
    have h2 : ((E.cs τ x).map fun c => (cv1 st pos c).2) = E.cs τ x := map_id_of fun y hy => by rw [isD_cv1 (hd y hy)]
    rw [h1, h2]
@[go_sem] theorem En.gc (τ : Nat) (x : α) : (E.av τ x).gc = true := by
  rcases E.shape τ x with ⟨h, _⟩ | h
  · revert h
    cases E.av τ x <;> intro h <;> first | rfl | cases h
  · rw [h]; rfl
@[go_sem] theorem En.core (τ : Nat) (x : α) : (E.av τ x).core = E.av τ x := by
  rcases E.shape τ x with ⟨h, _⟩ | h
  · revert h
    cases E.av τ x <;> intro h <;> first | rfl | cases h
  · rw [h]; rfl
@[go_sem] theorem En.boxable (τ : Nat) (x : α) : (E.av τ x).boxable = true := by
  rcases E.shape τ x with ⟨h, _⟩ | h
  · revert h
    cases E.av τ x <;> intro h <;> first | rfl | cases h
  · rw [h]; rfl
theorem En.nzv (τ : Nat) (x : α) (h : τ ≠ 0) : Nz false (E.av τ x) := by
  have hz := E.nz τ x h
  rcases E.shape τ x with ⟨_, h1⟩ | h1
  · rw [h1] at hz
    exact hz _ (List.mem_cons_self ..)
  · rw [h1]
    exact nz_agg.2 hz
theorem En.inj {τ τ' : Nat} {x y : α} (h : E.av τ x = E.av τ' y) : x = y := by
  have := congrArg AV.cells h
  rw [E.cells, E.cells] at this
  have h2 := congrArg E.dec this
  rwa [E.hdec, E.hdec] at h2
theorem En.injl {τ τ' : Nat} {l l' : List α} (h : l.map (E.av τ) = l'.map (E.av τ')) : l = l' := by
  have h2 := congrArg (List.map fun y => E.dec y.cells) h
  simpa [List.map_map, Function.comp_def, E.cells, E.hdec] using h2

def En.int (k : IntKind) : En Int where
  w := 1
  pos := Nat.one_pos
  one := true
  cs _ a := [.int k a]
  tot _ := 0
  dec l := match l with
    | [.int _ a] => a
    | _ => 0
  len _ _ := rfl
  hone _ := rfl
  dat _ x y hy := by simp only [List.mem_cons, List.not_mem_nil, or_false] at hy; subst hy; rfl
  nz _ x _ y hy := by simp only [List.mem_cons, List.not_mem_nil, or_false] at hy; subst hy; exact .int ..
  hdec _ _ := rfl
def En.bool : En Bool where
  w := 1
  pos := Nat.one_pos
  one := true
  cs _ a := [.bool a]
  tot _ := 0
  dec l := match l with
    | [.bool a] => a
    | _ => false
  len _ _ := rfl
  hone _ := rfl
  dat _ x y hy := by simp only [List.mem_cons, List.not_mem_nil, or_false] at hy; subst hy; rfl
  nz _ x _ y hy := by simp only [List.mem_cons, List.not_mem_nil, or_false] at hy; subst hy; exact .bool ..
  hdec _ _ := rfl
def En.str : En ByteArray where
  w := 1
  pos := Nat.one_pos
  one := true
  cs _ a := [.str a]
  tot _ := 0
  dec l := match l with
    | [.str a] => a
    | _ => ⟨#[]⟩
  len _ _ := rfl
  hone _ := rfl
  dat _ x y hy := by simp only [List.mem_cons, List.not_mem_nil, or_false] at hy; subst hy; rfl
  nz _ x _ y hy := by simp only [List.mem_cons, List.not_mem_nil, or_false] at hy; subst hy; exact .str ..
  hdec _ _ := rfl
def En.list (E : En α) : En (List α) where
  w := 1
  pos := Nat.one_pos
  one := true
  cs τ l := [.sl τ E.w (l.map (E.av τ))]
  tot l := l.length + (l.map E.tot).sum
  dec l := match l with
    | [.sl _ _ xs] => xs.map fun y => E.dec y.cells
    | _ => []
  len _ _ := rfl
  hone _ := rfl
  dat _ x y hy := by simp only [List.mem_cons, List.not_mem_nil, or_false] at hy; subst hy; rfl
  nz τ x hτ y hy := by
    simp only [List.mem_cons, List.not_mem_nil, or_false] at hy
    subst hy
    refine nz_sl.2 (.inr ⟨hτ, fun z hz u hu => ?_⟩)
    obtain ⟨a, _, rfl⟩ := List.mem_map.1 hz
    rw [E.cells] at hu
    exact E.nz τ a hτ u hu
  hdec _ x := by
    simp only [List.map_map, Function.comp_def, E.cells, E.hdec, List.map_id']
@[go_sem] theorem En.av_int {k : IntKind} {τ : Nat} {a : Int} : (En.int k).av τ a = .int k a := rfl
@[go_sem] theorem En.av_bool {τ : Nat} {a : Bool} : En.bool.av τ a = .bool a := rfl
@[go_sem] theorem En.av_str {τ : Nat} {a : ByteArray} : En.str.av τ a = .str a := rfl
@[go_sem] theorem En.av_list {τ : Nat} {l : List α} : E.list.av τ l = .sl τ E.w (l.map (E.av τ)) := rfl
@[go_sem] theorem En.cs_int {k : IntKind} {τ : Nat} {a : Int} : (En.int k).cs τ a = [.int k a] := rfl
@[go_sem] theorem En.cs_bool {τ : Nat} {a : Bool} : En.bool.cs τ a = [.bool a] := rfl
@[go_sem] theorem En.cs_str {τ : Nat} {a : ByteArray} : En.str.cs τ a = [.str a] := rfl
@[go_sem] theorem En.w_int {k : IntKind} : (En.int k).w = 1 := rfl
@[go_sem] theorem En.w_bool : En.bool.w = 1 := rfl
@[go_sem] theorem En.w_str : En.str.w = 1 := rfl
@[go_sem] theorem En.w_list : E.list.w = 1 := rfl
theorem nth_av {τ : Nat} {l : List α} {i : Nat} (h : i < l.length) : nth (l.map (E.av τ)) i = E.av τ l[i] := by
  simp [nth, List.getD_eq_getElem?_getD, h]
theorem nz_list {τ w : Nat} {l : List α} (hτ : τ ≠ 0) : Nz false (.sl τ w (l.map (E.av τ))) := by
  refine nz_sl.2 (.inr ⟨hτ, fun z hz u hu => ?_⟩)
  obtain ⟨a, _, rfl⟩ := List.mem_map.1 hz
  rw [E.cells] at hu
  exact E.nz τ a hτ u hu
end

/-! ### Arguments, read as data -/
/-- The old memory, as one region. -/
def oldD (w : World) : Nat → Nat → Prop := fun ρ b => ρ = 1 ∧ b < w.heap.size
def ReadAs (w : World) (cs : List Value) (avs : List AV) : Prop := cs.length = avs.length ∧ ∀ (j : Nat) (y : AV), avs[j]? = some y → ∃ u, cs[j]? = some u ∧ RepD w (oldD w) u y
/-- Cells that stand for a datum. -/
def QE {α : Type} (E : En α) (ok : α → Prop) (w : World) (cs : List Value) : Prop := ∃ x, ok x ∧ ReadAs w cs (E.cs 1 x)
theorem ReadAs.one {w : World} {u : Value} {y : AV} (h : RepD w (oldD w) u y) : ReadAs w [u] [y] := ⟨rfl, fun j z hz => by
  cases j with
  | zero => simp at hz; subst hz; exact ⟨u, rfl, h⟩
  | succ j => simp at hz⟩
theorem ReadAs.nil {w : World} : ReadAs w [] [] := ⟨rfl, fun j z hz => by simp at hz⟩
theorem ReadAs.append {w : World} {cs cs' : List Value} {as as' : List AV} (h : ReadAs w cs as) (h' : ReadAs w cs' as') : ReadAs w (cs ++ cs') (as ++ as') := by
  refine ⟨by simp [h.1, h'.1], fun j y hy => ?_⟩
  by_cases hj : j < as.length
  · rw [List.getElem?_append_left hj] at hy
    rw [List.getElem?_append_left (by rw [h.1]; exact hj)]
    exact h.2 j y hy
  · rw [List.getElem?_append_right (by omega)] at hy
    rw [List.getElem?_append_right (by rw [h.1]; omega), h.1]
    exact h'.2 _ y hy
theorem rd_int {P : Program} {T : TypeId} {k : IntKind} (ht : P.underlying T = some (.int k)) : Reads P T (QE (En.int k) fun n => (Lit.int k n).wf = true) := by
  intro H enc w base spare held fuel cs x hx _
  obtain ⟨n, rfl, _, hw⟩ := DataW.trod_int ht hx
  exact ⟨n, hw, .one (.int ..)⟩
theorem rd_bool {P : Program} {T : TypeId} (ht : P.underlying T = some .bool) : Reads P T (QE En.bool fun _ => True) := by
  intro H enc w base spare held fuel cs x hx _
  obtain ⟨b, rfl, _⟩ := DataW.trod_bool ht hx
  exact ⟨b, trivial, .one (.bool ..)⟩
theorem rd_str {P : Program} {T : TypeId} (ht : P.underlying T = some .string) : Reads P T (QE En.str fun s => s.size ≤ 140737488351232) := by
  intro H enc w base spare held fuel cs x hx hf
  obtain ⟨s, rfl, rfl, _⟩ := DataW.trod_string ht hx
  refine ⟨s, ?_, .one (.str ..)⟩
  have := hf s.data.toList.length (by simp [DataW.weights])
  simpa using this
theorem rd_list {α : Type} {P : Program} {T e : TypeId} {E : En α} {ok : α → Prop} (B : Nat) (ht : P.underlying T = some (.slice e)) (hc : P.cellsOf e = E.w) (hb : P.bytesOf e = B) (he : Reads P e (QE E ok)) :
    Reads P T (QE E.list fun xs => xs.length ≤ maxLen ∧ xs.length * B ≤ 140737488351232 ∧ ∀ x ∈ xs, ok x) := by
  intro H enc w base spare held fuel cs x hx hf
  rcases open_slice ht hx with ⟨rfl, rfl⟩ | ⟨a, len, cap, m, n, D, Pl, rfl, hbase, hl, hm, hmm, rfl, hel⟩
  · exact ⟨[], ⟨Nat.zero_le _, by simp, fun x hx => by cases hx⟩, .one (.sl0 ..)⟩
  · have hlm : len ≤ m := by rw [hmm]; split <;> omega
    have hfit : ∀ i, i < len → Fits P e (D i) := fun i hi q hq => hf q (by
      simp only [DataW.weights, ht]
      exact List.mem_cons_of_mem _ (List.mem_append_left _ (weightsAll_mem hq (List.mem_map.2 ⟨i, List.mem_range.2 hi, rfl⟩))))
    have hw : len * B ≤ 140737488351232 := by
      have := hf _ (show (((List.range len).map D).length + ((List.range (m - len)).map fun j => D (len + j)).length) * P.bytesOf e ∈ _ by
        simp only [DataW.weights, ht]
        exact List.mem_cons_self)
      rw [hb] at this
      refine Nat.le_trans (Nat.mul_le_mul_right _ ?_) this
      simp
    have key : ∀ q, q ≤ len → ∃ xs : List α, xs.length = q ∧ ∀ j p, xs[j]? = some p → ok p ∧ ∃ c, c.length = E.w ∧ ReadAs w c (E.cs 1 p) ∧ ∀ i u, c[i]? = some u → w.cell? (a.add (j * E.w + i)) = some u := by
      intro q
      induction q with
      | zero => exact fun _ => ⟨[], rfl, fun j p h => by simp at h⟩
      | succ q ih =>
        intro hq
        obtain ⟨xs, hxl, hxs⟩ := ih (by omega)
        obtain ⟨cs', h1, h2⟩ := hel q (by omega)
        obtain ⟨y, hoy, hy⟩ := he H enc w base spare held n cs' (D q, Pl q) h2 (hfit q (by omega))
        obtain ⟨_, hcl, hcell⟩ := World.cells?_some h1
        refine ⟨xs ++ [y], by simp [hxl], fun j p hj => ?_⟩
        by_cases hjq : j < q
        · rw [List.getElem?_append_left (by omega)] at hj
          exact hxs j p hj
        · have hjl : j < (xs ++ [y]).length := (List.getElem?_eq_some_iff.1 hj).1
          simp [hxl] at hjl
          obtain rfl : j = q := by omega
          rw [List.getElem?_append_right (by omega), hxl] at hj
          simp at hj
          subst hj
          refine ⟨hoy, cs', by rw [hcl, hc], hy, fun i u hu => ?_⟩
          have hi : i < P.cellsOf e := by
            have := (List.getElem?_eq_some_iff.1 hu).1
            omega
          have := hcell i hi
          rw [addr_add_add, hc] at this
          rw [this, hu]
    obtain ⟨xs, hxl, hxs⟩ := key len (Nat.le_refl _)
    refine ⟨xs, ⟨by omega, by rw [hxl]; exact hw, fun x hx => ?_⟩, .one ?_⟩
    · obtain ⟨j, hj⟩ := List.mem_iff_getElem?.1 hx
      exact (hxs j x hj).1
    · by_cases hz : xs = []
      · subst hz
        have : len = 0 := by simpa using hxl.symm
        subst this
        exact .sl0 ..
      · have hp0 : 0 < xs.length := List.length_pos_iff.2 hz
        obtain ⟨_, c0, hc0, hr0, hcell0⟩ := hxs 0 _ (List.getElem?_eq_getElem hp0)
        have hcw : 0 < c0.length := by rw [hc0]; exact E.pos
        have h00 := hcell0 0 _ (List.getElem?_eq_getElem hcw)
        simp only [Nat.zero_mul, Nat.add_zero, Addr.add, if_true] at h00
        have hspot : a.spot = none ∧ a.block < w.heap.size := by
          unfold World.cell? at h00
          split at h00
          · rename_i c t fr hb
            refine ⟨?_, (Array.getElem?_eq_some_iff.1 hb).1⟩
            cases hs : a.spot with
            | none => rfl
            | some s => simp [hs] at h00
          · cases h00
        have hadd : ∀ k, a.add k = ⟨a.block, a.off + k, none⟩ := fun k => by
          unfold Addr.add
          by_cases hk : k = 0
          · subst hk
            obtain ⟨ab, ao, as⟩ := a
            obtain rfl : as = none := hspot.1
            simp
          · rw [if_neg hk]
        have hel : ∀ (i : Nat) (x : AV), (xs.map (E.av 1))[i]? = some x → ∃ p, xs[i]? = some p ∧ x = E.av 1 p := fun i x hx => by
          rw [List.getElem?_map, Option.map_eq_some_iff] at hx
          obtain ⟨p, h1, h2⟩ := hx
          exact ⟨p, h1, h2.symm⟩
        have hget : ∀ (i : Nat) (x : AV) (j : Nat) (y : AV), (xs.map (E.av 1))[i]? = some x → x.cells[j]? = some y → ∃ u, w.cell? ⟨a.block, a.off + (i * E.w + j), none⟩ = some u ∧ RepD w (oldD w) u y := fun i x j y hx hy => by
          obtain ⟨p, h1, rfl⟩ := hel i x hx
          rw [E.cells] at hy
          obtain ⟨_, c, _, hr, hcell⟩ := hxs i p h1
          obtain ⟨u, u1, u2⟩ := hr.2 j y hy
          have := hcell j u u1
          rw [hadd] at this
          exact ⟨u, this, u2⟩
        have := RepD.sl (W := w) (D := oldD w) a cap 1 E.w (xs.map (E.av 1)) (fun i j => (w.cell? ⟨a.block, a.off + (i * E.w + j), none⟩).getD undef) hspot.1 ⟨rfl, hspot.2⟩ (by simp only [List.length_map]; omega) (by simp only [List.length_map]; omega)
          (fun i x hx => by obtain ⟨p, _, rfl⟩ := hel i x hx; rw [E.cells, E.len])
          (fun i x j y hx hy => by obtain ⟨u, u1, _⟩ := hget i x j y hx hy; rw [u1]; rfl)
          (fun i x j y hx hy => by obtain ⟨u, u1, u2⟩ := hget i x j y hx hy; rw [u1]; exact u2)
        simp only [List.length_map, hxl] at this
        exact this
end Go.Ve
