/- The texts of this claim, part PD 5: the engine that runs the code on values, the data, the contracts. No condition. -/
import Derived.Test.YtidfijaobkaalaaGreatPD4
import Derived.SizedLaws
import Derived.ChangeSlices
import Derived.ChangeArms
import Derived.Deep.Slices
import Derived.OpenShut
namespace Go.Ve
open Go.RowKit Go.Deep
set_option linter.unusedVariables false
set_option linter.unusedSimpArgs false
/-- Every weight of a datum lies within the reach. -/
def Fits {H : Type} (P : Program) (T : TypeId) (D : DataW H) : Prop := ∀ n ∈ D.weights P T, n ≤ 140737488351232
/-- What cells that read as data of a type say. -/
def Reads (P : Program) (T : TypeId) (Q : World → List Value → Prop) : Prop :=
  ∀ (H : Type) (enc : TypeId × Value → H) (w : World) (base : Nat) (spare : Nat → Bool) (held : Bool) (fuel : Nat) (cs : List Value) (x : DataW H × List MemPlace),
    DataW.trod enc P w base spare held fuel T cs = some x → Fits P T x.1 → Q w cs
theorem weightsAll_mem {H : Type} {P : Program} {e : TypeId} {d : DataW H} {n : Nat} (hn : n ∈ d.weights P e) : ∀ {l : List (DataW H)}, d ∈ l → n ∈ DataW.weightsAll P e l
  | [], h => by cases h
  | a :: l, h => by
    unfold DataW.weightsAll
    rcases List.mem_cons.1 h with rfl | h
    · exact List.mem_append_left _ hn
    · exact List.mem_append_right _ (weightsAll_mem hn h)
theorem addr_add_add (a : Addr) (i j : Nat) : (a.add i).add j = a.add (i + j) := by
  unfold Addr.add
  by_cases hi : i = 0
  · subst hi; simp
  · by_cases hj : j = 0
    · subst hj; simp [hi]
    · have h : ¬ (i = 0 ∧ j = 0) := by omega
      simp [hi, hj, Nat.add_assoc]
/-- Fields in line. -/
def RowQ : List (Nat × (World → List Value → Prop)) → World → List Value → Prop
  | [], _, cs => cs = []
  | (n, Q) :: r, w, cs => ∃ c rest, cs = c ++ rest ∧ c.length = n ∧ Q w c ∧ RowQ r w rest
/-- A struct's fields, each with what its cells say. -/
def FieldsFit (P : Program) (tot : Nat) : List Field → List (Nat × (World → List Value → Prop)) → Nat → Prop
  | [], [], off => off = tot
  | f :: fs, (n, Q) :: r, off => f.offset = off ∧ P.cellsOf f.type = n ∧ Reads P f.type Q ∧ FieldsFit P tot fs r (off + n)
  | _, _, _ => False
theorem FieldsFit.nil {P : Program} {tot off : Nat} (h : off = tot) : FieldsFit P tot [] [] off := h
theorem FieldsFit.cons {P : Program} {tot off n : Nat} {f : Field} {fs : List Field} {Q : World → List Value → Prop} {r : List (Nat × (World → List Value → Prop))} (h0 : f.offset = off) (h1 : P.cellsOf f.type = n) (h2 : Reads P f.type Q) (h3 : FieldsFit P tot fs r (off + n)) : FieldsFit P tot (f :: fs) ((n, Q) :: r) off := ⟨h0, h1, h2, h3⟩
theorem FieldsFit.le {P : Program} {tot : Nat} : ∀ {fs : List Field} {l : List (Nat × (World → List Value → Prop))} {off : Nat}, FieldsFit P tot fs l off → off ≤ tot
  | [], [], off, h => by unfold FieldsFit at h; omega
  | f :: fs, (n, Q) :: r, off, h => by
    unfold FieldsFit at h
    have := FieldsFit.le h.2.2.2
    omega
  | [], _ :: _, _, h => by unfold FieldsFit at h; exact h.elim
  | _ :: _, [], _, h => by unfold FieldsFit at h; exact h.elim
theorem rowQ_of {H : Type} {enc : TypeId × Value → H} {P : Program} {w : World} {base : Nat} {spare : Nat → Bool} {held : Bool} {n tot : Nat} {cs : List Value} (hl : cs.length = tot) :
    ∀ (fs : List Field) (l : List (Nat × (World → List Value → Prop))) (off : Nat) (xs : List (DataW H × List MemPlace)), FieldsFit P tot fs l off → xs.length = fs.length →
      (∀ (i : Nat) (f : Field), fs[i]? = some f → DataW.trod enc P w base spare held n f.type ((cs.drop f.offset).take (P.cellsOf f.type)) = xs[i]?) →
      (∀ q ∈ DataW.weightsEach P (fs.map (·.type)) (xs.map (·.1)), q ≤ 140737488351232) → RowQ l w (cs.drop off)
  | [], [], off, xs, h, _, _, _ => by
    unfold FieldsFit at h
    unfold RowQ
    rw [List.drop_of_length_le (by omega)]
  | f :: fs, (m, Q) :: r, off, xs, h, hlen, ht, hw => by
    unfold FieldsFit at h
    obtain ⟨ho, hm, hr, hf⟩ := h
    have hle := FieldsFit.le hf
    cases xs with
    | nil => simp at hlen
    | cons x xs =>
      unfold RowQ
      have h0 := ht 0 f rfl
      rw [ho, hm] at h0
      refine ⟨(cs.drop off).take m, (cs.drop off).drop m, (List.take_append_drop _ _).symm, by rw [List.length_take, List.length_drop]; omega, ?_, ?_⟩
      · exact hr H enc w base spare held n _ x (by simpa using h0) (fun q hq => hw q (by simp only [List.map_cons, DataW.weightsEach]; exact List.mem_append_left _ hq))
      · rw [List.drop_drop]
        exact rowQ_of hl fs r (off + m) xs hf (by simpa using hlen) (fun i g hg => by simpa using ht (i + 1) g (by simpa using hg)) (fun q hq => hw q (by simp only [List.map_cons, DataW.weightsEach]; exact List.mem_append_right _ hq))
  | [], _ :: _, _, _, h, _, _, _ => by unfold FieldsFit at h; exact h.elim
  | _ :: _, [], _, _, h, _, _, _ => by unfold FieldsFit at h; exact h.elim
theorem reads_struct {P : Program} {T : TypeId} {fs : Array Field} (l : List (Nat × (World → List Value → Prop))) (ht : P.underlying T = some (.struct fs)) (hf : FieldsFit P (P.cellsOf T) fs.toList l 0) : Reads P T (RowQ l) := by
  intro H enc w base spare held fuel cs x hx hfit
  obtain ⟨xs, n, _, rfl, hl, hlen, hg⟩ := DataW.trod_struct ht hx
  have := rowQ_of (enc := enc) (w := w) (base := base) (spare := spare) (held := held) (n := n) hl fs.toList l 0 xs hf (by simpa using hlen) (fun i f hi => hg i f (by simpa using hi)) (fun q hq => hfit q (by simp only [DataW.weights, ht]; exact hq))
  simpa using this
theorem reads_row {P : Program} {T : TypeId} {Q : World → List Value → Prop} (h : Reads P T Q) {H : Type} {enc : TypeId × Value → H} {w : World} {base : Nat} {spare : Nat → Bool} {held : Bool} {v : Value} {d : DataW H} {ps : List MemPlace} {ts : List TypeId} {ds : List (DataW H)} {j : Nat}
    (hsz : (DataW.weightsEach P ts ds).all (· ≤ reachBytes) = true) (ht : ts[j]? = some T) (hd : ds[j]? = some d) (hr : DataW.Trod enc P w base spare held T v d ps) : Q w v.cells.toList := by
  obtain ⟨fuel, hf⟩ := hr
  refine h H enc w base spare held fuel _ _ hf (fun n hn => ?_)
  have := List.all_eq_true.1 hsz _ (DataW.weights_mem_each ht hd n hn)
  have h2 := of_decide_eq_true this
  simpa [reachBytes] using h2
/-- How data of a type lie in cells: w cells; 'one': a value that is no struct; tot: the elements of all slices in it. -/
structure En (α : Type) where
  w : Nat
  pos : 0 < w
  one : Bool
  cs : Nat → α → List AV
  tot : α → Nat
  dec : List AV → α
  len : ∀ τ x, (cs τ x).length = w
  hone : one = true → w = 1
  dat : ∀ τ x, ∀ y ∈ cs τ x, y.isD = true
  nz : ∀ τ x, τ ≠ 0 → ∀ y ∈ cs τ x, Nz false y
  hdec : ∀ τ x, dec (cs τ x) = x
def En.av {α : Type} (E : En α) (τ : Nat) (x : α) : AV := bif E.one then (E.cs τ x).headD .undef else .agg (E.cs τ x)
section
variable {α : Type} (E : En α)
theorem isD_cells {y : AV} (h : y.isD = true) : y.cells = [y] := by cases y <;> first | rfl | cases h
theorem En.cells (τ : Nat) (x : α) : (E.av τ x).cells = E.cs τ x := by
  unfold En.av
  cases h : E.one
  · rfl
  · have h1 := E.len τ x
    rw [E.hone h] at h1
    have h2 := E.dat τ x
    match hc : E.cs τ x, h1, h2 with
    | [y], _, h2 => exact isD_cells (h2 y (by simp))
theorem isD_emb0 {st : List Root} {m : Nat} {y : AV} (h : y.isD = true) : emb0 st m y = ⟨True, y, []⟩ := by
  cases y <;> simp_all [emb0, AV.isD]
theorem isD_emb {st : List Root} {m : Nat} {y : AV} (h : y.isD = true) : emb st m y = ⟨True, y, []⟩ := by
  cases y <;> first | (cases h; done) | (have h0 := isD_emb0 (st := st) (m := m) h; exact h0)
theorem isD_cv0 {st : List Root} {pos : Nat → Option Nat} {y : AV} (h : y.isD = true) : cv0 st pos y = (True, y) := by
  cases y <;> first | rfl | cases h
theorem isD_cv1 {st : List Root} {pos : Nat → Option Nat} {y : AV} (h : y.isD = true) : cv1 st pos y = (True, y) := by
  cases y <;> first | rfl | cases h
theorem map_id_of {f : AV → AV} {l : List AV} (h : ∀ y ∈ l, f y = y) : l.map f = l := by
  induction l with
  | nil => rfl
  | cons y l ih => rw [List.map_cons, h y (List.mem_cons_self ..), ih fun z hz => h z (List.mem_cons_of_mem _ hz)]
/-- The two shapes of a value. -/
theorem En.shape (τ : Nat) (x : α) : ((E.av τ x).isD = true ∧ E.cs τ x = [E.av τ x]) ∨ E.av τ x = .agg (E.cs τ x) := by
  cases h : E.one
  · exact .inr (by simp [En.av, h])
  · refine .inl ?_
    have h1 := E.len τ x
    rw [E.hone h] at h1
    have h2 := E.dat τ x
    simp only [En.av, h, cond_true]
    match hc : E.cs τ x, h1, h2 with
    | [y], _, h2 => exact ⟨h2 y (by simp), rfl⟩
@[go_sem] theorem En.emb (τ : Nat) (x : α) {st : List Root} {m : Nat} : Go.Ve.emb st m (E.av τ x) = ⟨True, E.av τ x, []⟩ := by
  rcases E.shape τ x with ⟨h, _⟩ | h
  · exact isD_emb h
  · rw [h, emb_agg]
    have hd := E.dat τ x
    have h1 : (∀ c ∈ E.cs τ x, (emb0 st m c).c) = True := eq_true fun c hc => by rw [isD_emb0 (hd c hc)]; trivial
    have h2 : ((E.cs τ x).map fun c => (emb0 st m c).v) = E.cs τ x := map_id_of fun y hy => by rw [isD_emb0 (hd y hy)]
    have h3 : ((E.cs τ x).flatMap fun c => (emb0 st m c).rs) = [] := by
      rw [List.flatMap_eq_nil_iff]
      intro y hy
      rw [isD_emb0 (hd y hy)]
    rw [h1, h2, h3]
@[go_sem] theorem En.embT (τ : Nat) (x : α) {st : List Root} {m : Nat} : Go.Ve.embT st m (E.av τ x) = ⟨True, E.av τ x, []⟩ := by
  rw [← E.emb τ x (st := st) (m := m)]
  rcases E.shape τ x with ⟨h, _⟩ | h
  · revert h
    cases E.av τ x <;> intro h <;> first | rfl | cases h
  · rw [h]; rfl
@[go_sem] theorem En.cv (τ : Nat) (x : α) {st : List Root} {pos : Nat → Option Nat} : Go.Ve.cv st pos (E.av τ x) = (True, E.av τ x) := by
  rcases E.shape τ x with ⟨h, _⟩ | h
  · revert h
    cases E.av τ x <;> intro h <;> first | rfl | cases h
  · rw [h, cv_agg]
    have hd := E.dat τ x
    have h1 : (∀ c ∈ E.cs τ x, (cv1 st pos c).1) = True := eq_true fun c hc => by rw [isD_cv1 (hd c hc)]; trivial
    have h2 : ((E.cs τ x).map fun c => (cv1 st pos c).2) = E.cs τ x := map_id_of fun y hy => by rw [isD_cv1 (hd y hy)]
    rw [h1, h2]
@[go_sem] theorem En.gc (τ : Nat) (x : α) : (E.av τ x).gc = true := by
  rcases E.shape τ x with ⟨h, _⟩ | h
  · revert h
    cases E.av τ x <;> intro h <;> first | rfl | cases h
  · rw [h]; rfl
@[go_sem] theorem En.core (τ : Nat) (x : α) : (E.av τ x).core = E.av τ x := by
  rcases E.shape τ x with ⟨h, _⟩ | h
  · revert h
    cases E.av τ x <;> intro h <;> first | rfl | cases h
  · rw [h]; rfl
@[go_sem] theorem En.boxable (τ : Nat) (x : α) : (E.av τ x).boxable = true := by
  rcases E.shape τ x with ⟨h, _⟩ | h
  · revert h
    cases E.av τ x <;> intro h <;> first | rfl | cases h
  · rw [h]; rfl
theorem En.inj {τ τ' : Nat} {x y : α} (h : E.av τ x = E.av τ' y) : x = y := by
  have := congrArg AV.cells h
  rw [E.cells, E.cells] at this
  have h2 := congrArg E.dec this
  rwa [E.hdec, E.hdec] at h2
def En.int (k : IntKind) : En Int where
  w := 1
  pos := Nat.one_pos
  one := true
  cs _ a := [.int k a]
  tot _ := 0
  dec l := match l with
    | [.int _ a] => a
    | _ => 0
  len _ _ := rfl
  hone _ := rfl
  dat _ x y hy := by simp only [List.mem_cons, List.not_mem_nil, or_false] at hy; subst hy; rfl
  nz _ x _ y hy := by simp only [List.mem_cons, List.not_mem_nil, or_false] at hy; subst hy; exact .int ..
  hdec _ _ := rfl
def En.bool : En Bool where
  w := 1
  pos := Nat.one_pos
  one := true
  cs _ a := [.bool a]
  tot _ := 0
  dec l := match l with
    | [.bool a] => a
    | _ => false
  len _ _ := rfl
  hone _ := rfl
  dat _ x y hy := by simp only [List.mem_cons, List.not_mem_nil, or_false] at hy; subst hy; rfl
  nz _ x _ y hy := by simp only [List.mem_cons, List.not_mem_nil, or_false] at hy; subst hy; exact .bool ..
  hdec _ _ := rfl
def En.str : En ByteArray where
  w := 1
  pos := Nat.one_pos
  one := true
  cs _ a := [.str a]
  tot _ := 0
  dec l := match l with
    | [.str a] => a
    | _ => ⟨#[]⟩
  len _ _ := rfl
  hone _ := rfl
  dat _ x y hy := by simp only [List.mem_cons, List.not_mem_nil, or_false] at hy; subst hy; rfl
  nz _ x _ y hy := by simp only [List.mem_cons, List.not_mem_nil, or_false] at hy; subst hy; exact .str ..
  hdec _ _ := rfl
def En.list (E : En α) : En (List α) where
  w := 1
  pos := Nat.one_pos
  one := true
  cs τ l := [.sl τ E.w (l.map (E.av τ))]
  tot l := l.length + (l.map E.tot).sum
  dec l := match l with
    | [.sl _ _ xs] => xs.map fun y => E.dec y.cells
    | _ => []
  len _ _ := rfl
  hone _ := rfl
  dat _ x y hy := by simp only [List.mem_cons, List.not_mem_nil, or_false] at hy; subst hy; rfl
  nz τ x hτ y hy := by
    simp only [List.mem_cons, List.not_mem_nil, or_false] at hy
    subst hy
    refine nz_sl.2 (.inr ⟨hτ, fun z hz u hu => ?_⟩)
    obtain ⟨a, _, rfl⟩ := List.mem_map.1 hz
    rw [E.cells] at hu
    exact E.nz τ a hτ u hu
  hdec _ x := by
    simp only [List.map_map, Function.comp_def, E.cells, E.hdec, List.map_id']
@[go_sem] theorem En.av_int {k : IntKind} {τ : Nat} {a : Int} : (En.int k).av τ a = .int k a := rfl
@[go_sem] theorem En.av_bool {τ : Nat} {a : Bool} : En.bool.av τ a = .bool a := rfl
@[go_sem] theorem En.av_str {τ : Nat} {a : ByteArray} : En.str.av τ a = .str a := rfl
@[go_sem] theorem En.av_list {τ : Nat} {l : List α} : E.list.av τ l = .sl τ E.w (l.map (E.av τ)) := rfl
@[go_sem] theorem En.cs_int {k : IntKind} {τ : Nat} {a : Int} : (En.int k).cs τ a = [.int k a] := rfl
@[go_sem] theorem En.cs_bool {τ : Nat} {a : Bool} : En.bool.cs τ a = [.bool a] := rfl
@[go_sem] theorem En.cs_str {τ : Nat} {a : ByteArray} : En.str.cs τ a = [.str a] := rfl
@[go_sem] theorem En.w_int {k : IntKind} : (En.int k).w = 1 := rfl
@[go_sem] theorem En.w_bool : En.bool.w = 1 := rfl
@[go_sem] theorem En.w_str : En.str.w = 1 := rfl
@[go_sem] theorem En.w_list : E.list.w = 1 := rfl
theorem nth_av {τ : Nat} {l : List α} {i : Nat} (h : i < l.length) : nth (l.map (E.av τ)) i = E.av τ l[i] := by
  simp [nth, List.getD_eq_getElem?_getD, h]
end
/-- The old memory, as one region. -/
def oldD (w : World) : Nat → Nat → Prop := fun ρ b => ρ = 1 ∧ b < w.heap.size
def ReadAs (w : World) (cs : List Value) (avs : List AV) : Prop := cs.length = avs.length ∧ ∀ (j : Nat) (y : AV), avs[j]? = some y → ∃ u, cs[j]? = some u ∧ RepD w (oldD w) u y
/-- Cells that stand for a datum. -/
def QE {α : Type} (E : En α) (ok : α → Prop) (w : World) (cs : List Value) : Prop := ∃ x, ok x ∧ ReadAs w cs (E.cs 1 x)
theorem ReadAs.one {w : World} {u : Value} {y : AV} (h : RepD w (oldD w) u y) : ReadAs w [u] [y] := ⟨rfl, fun j z hz => by
  cases j with
  | zero => simp at hz; subst hz; exact ⟨u, rfl, h⟩
  | succ j => simp at hz⟩
theorem ReadAs.nil {w : World} : ReadAs w [] [] := ⟨rfl, fun j z hz => by simp at hz⟩
theorem ReadAs.append {w : World} {cs cs' : List Value} {as as' : List AV} (h : ReadAs w cs as) (h' : ReadAs w cs' as') : ReadAs w (cs ++ cs') (as ++ as') := by
  refine ⟨by simp [h.1, h'.1], fun j y hy => ?_⟩
  by_cases hj : j < as.length
  · rw [List.getElem?_append_left hj] at hy
    rw [List.getElem?_append_left (by rw [h.1]; exact hj)]
    exact h.2 j y hy
  · rw [List.getElem?_append_right (by omega)] at hy
    rw [List.getElem?_append_right (by rw [h.1]; omega), h.1]
    exact h'.2 _ y hy
theorem rd_int {P : Program} {T : TypeId} {k : IntKind} (ht : P.underlying T = some (.int k)) : Reads P T (QE (En.int k) fun n => (Lit.int k n).wf = true) := by
  intro H enc w base spare held fuel cs x hx _
  obtain ⟨n, rfl, _, hw⟩ := DataW.trod_int ht hx
  exact ⟨n, hw, .one (.int ..)⟩
theorem rd_bool {P : Program} {T : TypeId} (ht : P.underlying T = some .bool) : Reads P T (QE En.bool fun _ => True) := by
  intro H enc w base spare held fuel cs x hx _
  obtain ⟨b, rfl, _⟩ := DataW.trod_bool ht hx
  exact ⟨b, trivial, .one (.bool ..)⟩
theorem rd_list {α : Type} {P : Program} {T e : TypeId} {E : En α} {ok : α → Prop} (B : Nat) (ht : P.underlying T = some (.slice e)) (hc : P.cellsOf e = E.w) (hb : P.bytesOf e = B) (he : Reads P e (QE E ok)) :
    Reads P T (QE E.list fun xs => xs.length ≤ maxLen ∧ xs.length * B ≤ 140737488351232 ∧ ∀ x ∈ xs, ok x) := by
  intro H enc w base spare held fuel cs x hx hf
  rcases open_slice ht hx with ⟨rfl, rfl⟩ | ⟨a, len, cap, m, n, D, Pl, rfl, hbase, hl, hm, hmm, rfl, hel⟩
  · exact ⟨[], ⟨Nat.zero_le _, by simp, fun x hx => by cases hx⟩, .one (.sl0 ..)⟩
  · have hlm : len ≤ m := by rw [hmm]; split <;> omega
    have hfit : ∀ i, i < len → Fits P e (D i) := fun i hi q hq => hf q (by
      simp only [DataW.weights, ht]
      exact List.mem_cons_of_mem _ (List.mem_append_left _ (weightsAll_mem hq (List.mem_map.2 ⟨i, List.mem_range.2 hi, rfl⟩))))
    have hw : len * B ≤ 140737488351232 := by
      have := hf _ (show (((List.range len).map D).length + ((List.range (m - len)).map fun j => D (len + j)).length) * P.bytesOf e ∈ _ by
        simp only [DataW.weights, ht]
        exact List.mem_cons_self)
      rw [hb] at this
      refine Nat.le_trans (Nat.mul_le_mul_right _ ?_) this
      simp
    have key : ∀ q, q ≤ len → ∃ xs : List α, xs.length = q ∧ ∀ j p, xs[j]? = some p → ok p ∧ ∃ c, c.length = E.w ∧ ReadAs w c (E.cs 1 p) ∧ ∀ i u, c[i]? = some u → w.cell? (a.add (j * E.w + i)) = some u := by
      intro q
      induction q with
      | zero => exact fun _ => ⟨[], rfl, fun j p h => by simp at h⟩
      | succ q ih =>
        intro hq
        obtain ⟨xs, hxl, hxs⟩ := ih (by omega)
        obtain ⟨cs', h1, h2⟩ := hel q (by omega)
        obtain ⟨y, hoy, hy⟩ := he H enc w base spare held n cs' (D q, Pl q) h2 (hfit q (by omega))
        obtain ⟨_, hcl, hcell⟩ := World.cells?_some h1
        refine ⟨xs ++ [y], by simp [hxl], fun j p hj => ?_⟩
        by_cases hjq : j < q
        · rw [List.getElem?_append_left (by omega)] at hj
          exact hxs j p hj
        · have hjl : j < (xs ++ [y]).length := (List.getElem?_eq_some_iff.1 hj).1
          simp [hxl] at hjl
          obtain rfl : j = q := by omega
          rw [List.getElem?_append_right (by omega), hxl] at hj
          simp at hj
          subst hj
          refine ⟨hoy, cs', by rw [hcl, hc], hy, fun i u hu => ?_⟩
          have hi : i < P.cellsOf e := by
            have := (List.getElem?_eq_some_iff.1 hu).1
            omega
          have := hcell i hi
          rw [addr_add_add, hc] at this
          rw [this, hu]
    obtain ⟨xs, hxl, hxs⟩ := key len (Nat.le_refl _)
    refine ⟨xs, ⟨by omega, by rw [hxl]; exact hw, fun x hx => ?_⟩, .one ?_⟩
    · obtain ⟨j, hj⟩ := List.mem_iff_getElem?.1 hx
      exact (hxs j x hj).1
    · by_cases hz : xs = []
      · subst hz
        have : len = 0 := by simpa using hxl.symm
        subst this
        exact .sl0 ..
      · have hp0 : 0 < xs.length := List.length_pos_iff.2 hz
        obtain ⟨_, c0, hc0, hr0, hcell0⟩ := hxs 0 _ (List.getElem?_eq_getElem hp0)
        have hcw : 0 < c0.length := by rw [hc0]; exact E.pos
        have h00 := hcell0 0 _ (List.getElem?_eq_getElem hcw)
        simp only [Nat.zero_mul, Nat.add_zero, Addr.add, if_true] at h00
        have hspot : a.spot = none ∧ a.block < w.heap.size := by
          unfold World.cell? at h00
          split at h00
          · rename_i c t fr hb
            refine ⟨?_, (Array.getElem?_eq_some_iff.1 hb).1⟩
            cases hs : a.spot with
            | none => rfl
            | some s => simp [hs] at h00
          · cases h00
        have hadd : ∀ k, a.add k = ⟨a.block, a.off + k, none⟩ := fun k => by
          unfold Addr.add
          by_cases hk : k = 0
          · subst hk
            obtain ⟨ab, ao, as⟩ := a
            obtain rfl : as = none := hspot.1
            simp
          · rw [if_neg hk]
        have hel : ∀ (i : Nat) (x : AV), (xs.map (E.av 1))[i]? = some x → ∃ p, xs[i]? = some p ∧ x = E.av 1 p := fun i x hx => by
          rw [List.getElem?_map, Option.map_eq_some_iff] at hx
          obtain ⟨p, h1, h2⟩ := hx
          exact ⟨p, h1, h2.symm⟩
        have hget : ∀ (i : Nat) (x : AV) (j : Nat) (y : AV), (xs.map (E.av 1))[i]? = some x → x.cells[j]? = some y → ∃ u, w.cell? ⟨a.block, a.off + (i * E.w + j), none⟩ = some u ∧ RepD w (oldD w) u y := fun i x j y hx hy => by
          obtain ⟨p, h1, rfl⟩ := hel i x hx
          rw [E.cells] at hy
          obtain ⟨_, c, _, hr, hcell⟩ := hxs i p h1
          obtain ⟨u, u1, u2⟩ := hr.2 j y hy
          have := hcell j u u1
          rw [hadd] at this
          exact ⟨u, this, u2⟩
        have := RepD.sl (W := w) (D := oldD w) a cap 1 E.w (xs.map (E.av 1)) (fun i j => (w.cell? ⟨a.block, a.off + (i * E.w + j), none⟩).getD undef) hspot.1 ⟨rfl, hspot.2⟩ (by simp only [List.length_map]; omega) (by simp only [List.length_map]; omega)
          (fun i x hx => by obtain ⟨p, _, rfl⟩ := hel i x hx; rw [E.cells, E.len])
          (fun i x j y hx hy => by obtain ⟨u, u1, _⟩ := hget i x j y hx hy; rw [u1]; rfl)
          (fun i x j y hx hy => by obtain ⟨u, u1, u2⟩ := hget i x j y hx hy; rw [u1]; exact u2)
        simp only [List.length_map, hxl] at this
        exact this
end Go.Ve
namespace Go.Ve
open Go.RowKit
set_option linter.unusedVariables false
set_option linter.unusedSimpArgs false
section
variable {P : Program} {n k : Nat} {T : List (Nat × Fsem)} {K : Env → Prop} {e : Env} {B : List (List Nat)} {i : Nat} {o : SOp} {l : List SOp} {hist : List (Nat × List Root)} {pend : List (Nat × Op × Option OpR)}
def vdK (q lk : Bool) (P : Program) (n : Nat) (T : List (Nat × Fsem)) (B : List (List Nat)) (i : Nat) (o : SOp) (l : List SOp) (hist : List (Nat × List Root)) (pend : List (Nat × Op × Option OpR)) (e : Env) (K : Env → Prop) : Prop :=
  bif q then
    (bif lk then (∀ h ∈ hist, bif anc B h.1 i then True else qval P n T ⟨e.tm, h.2⟩ o.op = qval P n T e o.op) else True) ∧
    vs P n T o e fun e' => vd P n T B (i + 1) l hist (bif lk then (i, o.op, qval P n T e o.op) :: pend else pend) e' K
  else vs P n T o e fun e' => (∀ p ∈ pend, bif anc B p.1 i then True else qval P n T e' p.2.1 = p.2.2) ∧ vd P n T B (i + 1) l ((i, e.st) :: hist) pend e' K
@[congr] theorem vdK_congr {q lk q' lk' : Bool} {i i' : Nat} {hist hist' : List (Nat × List Root)} {pend pend' : List (Nat × Op × Option OpR)} {e e' : Env} (h1 : q = q') (h2 : lk = lk') (h0 : i = i') (h3 : hist = hist') (h4 : pend = pend') (h5 : e = e') : vdK q lk P n T B i o l hist pend e K = vdK q' lk' P n T B i' o l hist' pend' e' K := by rw [h1, h2, h0, h3, h4, h5]
@[go_sem] theorem vd_cons : vd P n T B i (o :: l) hist pend e K = vdK (quiet T o.op) (looks o.op) P n T B i o l hist pend e K := rfl
theorem bif_if {b : Bool} {p : Prop} : (bif b then True else p) = (if b = true then True else p) := by cases b <;> simp
@[go_sem] theorem vdK_tt : vdK true true P n T B i o l hist pend e K = ((∀ h ∈ hist, if anc B h.1 i = true then True else qval P n T ⟨e.tm, h.2⟩ o.op = qval P n T e o.op) ∧ vs P n T o e fun e' => vd P n T B (i + 1) l hist ((i, o.op, qval P n T e o.op) :: pend) e' K) := by
  simp only [vdK, cond_true, bif_if]
@[go_sem] theorem vdK_tf : vdK true false P n T B i o l hist pend e K = vs P n T o e fun e' => vd P n T B (i + 1) l hist pend e' K := by
  simp only [vdK, cond_true, cond_false, true_and]
@[go_sem] theorem vdK_f {lk : Bool} : vdK false lk P n T B i o l hist pend e K = vs P n T o e fun e' => (∀ p ∈ pend, if anc B p.1 i = true then True else qval P n T e' p.2.1 = p.2.2) ∧ vd P n T B (i + 1) l ((i, e.st) :: hist) pend e' K := by
  simp only [vdK, cond_false, bif_if]
@[go_sem] theorem anc_eq {j : Nat} : anc B j i = (B.getD i []).contains j := rfl
end
section
variable {P : Program} {n k : Nat} {T : List (Nat × Fsem)} {K : Env → Prop} {Q : Exit → Env → Prop} {e : Env} {B : List (List Nat)} {i : Nat} {o : SOp} {l : List SOp}
def vq (P : Program) (n : Nat) (T : List (Nat × Fsem)) : List SOp → Env → (Env → Prop) → Prop
  | [], e, K => K e
  | o :: l, e, K => vs P n T o e fun e' => vq P n T l e' K
@[congr] theorem vq_congr {e e' : Env} (h : e = e') : vq P n T l e K = vq P n T l e' K := by subst h; rfl
@[go_sem] theorem vq_nil : vq P n T [] e K = K e := rfl
@[go_sem] theorem vq_cons : vq P n T (o :: l) e K = vs P n T o e fun e' => vq P n T l e' K := rfl
def quietO (T : List (Nat × Fsem)) : List SOp → Bool
  | [] => true
  | o :: l => quiet T o.op && quietO T l
@[go_sem] theorem quietO_nil : quietO T [] = true := rfl
@[go_sem] theorem quietO_cons {d : Option Nat} {op : Op} {g : Option (Nat × Bool)} : quietO T (⟨d, op, g⟩ :: l) = (quiet T op && quietO T l) := rfl
theorem vd_vq : ∀ {l : List SOp} {i : Nat} {pend : List (Nat × Op × Option OpR)} {e : Env}, quietO T l = true → vd P n T B i l [] pend e K = vq P n T l e K
  | [], _, _, _, _ => rfl
  | o :: l, i, pend, e, h => by
    simp only [quietO, Bool.and_eq_true] at h
    unfold vd vq
    rw [h.1]
    simp only [cond_true]
    have h1 : (bif looks o.op then (∀ h ∈ ([] : List (Nat × List Root)), bif anc B h.1 i then True else qval P n T ⟨e.tm, h.2⟩ o.op = qval P n T e o.op) else True) = True := by
      cases looks o.op <;> simp
    rw [h1, true_and]
    congr 1
    funext e'
    exact vd_vq h.2
def drK (q : Bool) (P : Program) (n : Nat) (T : List (Nat × Fsem)) (B : List (List Nat)) (l : List SOp) (e : Env) (K : Env → Prop) : Prop :=
  bif q then vq P n T l e K else vd P n T B 0 l [] [] e K
@[congr] theorem drK_congr {q q' : Bool} {e e' : Env} (h0 : q = q') (h : e = e') : drK q P n T B l e K = drK q' P n T B l e' K := by subst h0 h; rfl
@[go_sem] theorem drK_t : drK true P n T B l e K = vq P n T l e K := rfl
@[go_sem] theorem drK_f : drK false P n T B l e K = vd P n T B 0 l [] [] e K := rfl
@[go_sem] theorem vc_dr : vc P n k T (.draw l B) Q e = drK (quietO T l) P n T B l e (Q .normal) := by
  rw [vc_draw]
  cases h : quietO T l
  · rfl
  · exact vd_vq h
end
section
variable {T : List (Nat × Fsem)}
@[go_sem] theorem qu_move {x : Operand} : quiet T (.move x) = true := rfl
@[go_sem] theorem qu_assign {x : Operand} : quiet T (.assign x) = true := rfl
@[go_sem] theorem qu_pick {c a b : Operand} : quiet T (.pick c a b) = true := rfl
@[go_sem] theorem qu_load {t : Nat} {a : Operand} : quiet T (.load t a) = true := rfl
@[go_sem] theorem qu_nil {x : Operand} : quiet T (.nilCheck x) = true := rfl
@[go_sem] theorem qu_bin {op : BinOp} {t : Nat} {x y : Operand} {z : Nat} : quiet T (.binOp op t x y z) = true := rfl
@[go_sem] theorem qu_un {op : UnOp} {t : Nat} {x : Operand} : quiet T (.unOp op t x) = true := rfl
@[go_sem] theorem qu_conv {s t : Nat} {x : Operand} : quiet T (.convert s t x) = true := rfl
@[go_sem] theorem qu_mkf {f : Fn} {a b : Array Operand} : quiet T (.makeFunc f a b) = true := rfl
@[go_sem] theorem qu_slice {t : Nat} {x : Operand} {lo hi mx : Option Operand} : quiet T (.slice t x lo hi mx) = true := rfl
@[go_sem] theorem qu_fa {t : Nat} {x : Operand} {f : Nat} : quiet T (.fieldAddr t x f) = true := rfl
@[go_sem] theorem qu_f {t : Nat} {x : Operand} {f : Nat} : quiet T (.field t x f) = true := rfl
@[go_sem] theorem qu_ia {t : Nat} {x i : Operand} : quiet T (.indexAddr t x i) = true := rfl
@[go_sem] theorem qu_i {t : Nat} {x i : Operand} : quiet T (.index t x i) = true := rfl
@[go_sem] theorem qu_lk {t : Nat} {x i : Operand} {ok : Bool} : quiet T (.lookup t x i ok) = true := rfl
@[go_sem] theorem qu_ex {x : Operand} {i : Nat} : quiet T (.extract x i) = true := rfl
@[go_sem] theorem qu_len {a : Array Operand} {t : Array Nat} : quiet T (.call ⟨.builtin .len, a, t⟩) = true := rfl
@[go_sem] theorem qu_max {a : Array Operand} {t : Array Nat} : quiet T (.call ⟨.builtin .max, a, t⟩) = true := rfl
@[go_sem] theorem qu_min {a : Array Operand} {t : Array Nat} : quiet T (.call ⟨.builtin .min, a, t⟩) = true := rfl
@[go_sem] theorem qu_app {a : Array Operand} {t : Array Nat} : quiet T (.call ⟨.builtin .append, a, t⟩) = false := rfl
@[go_sem] theorem qu_copy {a : Array Operand} {t : Array Nat} : quiet T (.call ⟨.builtin .copy, a, t⟩) = false := rfl
@[go_sem] theorem qu_call {f : Nat} {a : Array Operand} {t : Array Nat} : quiet T (.call ⟨.value (.func f), a, t⟩) = (tget T f).isSome := rfl
@[go_sem] theorem qu_callt {f : Nat} {a : Array Operand} {t : Array Nat} : quiet T (.call ⟨.value (.tmp f), a, t⟩) = false := rfl
@[go_sem] theorem qu_build {t : Nat} {ps : Array (Nat × Operand)} : quiet T (.build t ps) = true := rfl
@[go_sem] theorem qu_box {t : Nat} {x : Operand} : quiet T (.box t x) = false := rfl
@[go_sem] theorem qu_alloc {t : Nat} : quiet T (.alloc t) = false := rfl
@[go_sem] theorem qu_bs {t l : Nat} {ps : Array (Nat × Operand)} : quiet T (.buildSlice t l ps) = false := rfl
@[go_sem] theorem qu_ms {t : Nat} {l c : Operand} : quiet T (.makeSlice t l c) = false := rfl
@[go_sem] theorem qu_mm {t : Nat} {r : Option Operand} : quiet T (.makeMap t r) = false := rfl
@[go_sem] theorem qu_store {t : Nat} {p x : Operand} : quiet T (.store t p x) = false := rfl
@[go_sem] theorem qu_mu {t : Nat} {m k v : Operand} : quiet T (.mapUpdate t m k v) = false := rfl
@[go_sem] theorem lo_move {x : Operand} : looks (.move x) = false := rfl
@[go_sem] theorem lo_assign {x : Operand} : looks (.assign x) = false := rfl
@[go_sem] theorem lo_pick {c a b : Operand} : looks (.pick c a b) = false := rfl
@[go_sem] theorem lo_load {t : Nat} {a : Operand} : looks (.load t a) = true := rfl
@[go_sem] theorem lo_nil {x : Operand} : looks (.nilCheck x) = false := rfl
@[go_sem] theorem lo_bin {op : BinOp} {t : Nat} {x y : Operand} {z : Nat} : looks (.binOp op t x y z) = false := rfl
@[go_sem] theorem lo_un {op : UnOp} {t : Nat} {x : Operand} : looks (.unOp op t x) = false := rfl
@[go_sem] theorem lo_conv {s t : Nat} {x : Operand} : looks (.convert s t x) = false := rfl
@[go_sem] theorem lo_mkf {f : Fn} {a b : Array Operand} : looks (.makeFunc f a b) = false := rfl
@[go_sem] theorem lo_slice {t : Nat} {x : Operand} {lo hi mx : Option Operand} : looks (.slice t x lo hi mx) = false := rfl
@[go_sem] theorem lo_fa {t : Nat} {x : Operand} {f : Nat} : looks (.fieldAddr t x f) = false := rfl
@[go_sem] theorem lo_f {t : Nat} {x : Operand} {f : Nat} : looks (.field t x f) = false := rfl
@[go_sem] theorem lo_ia {t : Nat} {x i : Operand} : looks (.indexAddr t x i) = false := rfl
@[go_sem] theorem lo_i {t : Nat} {x i : Operand} : looks (.index t x i) = false := rfl
@[go_sem] theorem lo_lk {t : Nat} {x i : Operand} {ok : Bool} : looks (.lookup t x i ok) = true := rfl
@[go_sem] theorem lo_ex {x : Operand} {i : Nat} : looks (.extract x i) = false := rfl
@[go_sem] theorem lo_call {c : Call} : looks (.call c) = true := rfl
@[go_sem] theorem lo_build {t : Nat} {ps : Array (Nat × Operand)} : looks (.build t ps) = false := rfl
@[go_sem] theorem lo_box {t : Nat} {x : Operand} : looks (.box t x) = false := rfl
@[go_sem] theorem lo_alloc {t : Nat} : looks (.alloc t) = false := rfl
@[go_sem] theorem lo_bs {t l : Nat} {ps : Array (Nat × Operand)} : looks (.buildSlice t l ps) = false := rfl
@[go_sem] theorem lo_ms {t : Nat} {l c : Operand} : looks (.makeSlice t l c) = false := rfl
@[go_sem] theorem lo_mm {t : Nat} {r : Option Operand} : looks (.makeMap t r) = false := rfl
@[go_sem] theorem lo_store {t : Nat} {p x : Operand} : looks (.store t p x) = false := rfl
@[go_sem] theorem lo_mu {t : Nat} {m k v : Operand} : looks (.mapUpdate t m k v) = false := rfl
end
theorem wrap_ok {x : Int} (h1 : -9223372036854775808 ≤ x) (h2 : x ≤ 9223372036854775807) : IntKind.i64.wrap x = x := by rw [IntKind.wrap_i64]; omega
/-- The next index of a slice. -/
theorem wrap_next {i m : Nat} (hm : m ≤ maxLen) (h : i < m) : IntKind.i64.wrap ((i : Int) + 1) = (i : Int) + 1 := by
  refine wrap_ok (by omega) ?_
  simp only [maxLen] at hm
  omega
end Go.Ve
namespace Go.Ve
open Go.RowKit
set_option linter.unusedVariables false
set_option linter.unusedSimpArgs false
set_option maxRecDepth 10000
def szFlatC (ti t : Nat) : SCode := (.seq (.reg [⟨(some 4), .assign (.const (.int .i64 0)), none⟩])
(.seq (.reg [⟨(some 5), .move (.tmp 1), none⟩,
    ⟨(some 6), .move (.tmp 0), none⟩,
    ⟨(some 7), .call ⟨(.builtin .len), #[(.tmp 6)], #[t]⟩, none⟩,
    ⟨(some 8), .binOp .sub ti (.tmp 5) (.tmp 7) ti, none⟩,
    ⟨(some 1), .assign (.tmp 8), none⟩])
 (.seq (.seq (.reg [⟨(some 9), .move (.tmp 1), none⟩,
      ⟨(some 10), .binOp .lss ti (.tmp 9) (.const (.int .i64 0)) ti, none⟩])
   (.cond (.tmp 10) (.seq (.reg [⟨(some 4), .assign (.const (.int .i64 (-1))), none⟩])
     .ret)
    .skip))
  (.seq (.reg [⟨(some 11), .move (.tmp 1), none⟩,
      ⟨(some 4), .assign (.tmp 11), none⟩])
   .ret))))
def szDeepC (ti t e fe : Nat) : SCode := (.seq (.reg [⟨(some 4), .assign (.const (.int .i64 0)), none⟩])
(.seq (.reg [⟨(some 6), .move (.tmp 1), none⟩,
    ⟨(some 7), .move (.tmp 0), none⟩,
    ⟨(some 8), .call ⟨(.builtin .len), #[(.tmp 7)], #[t]⟩, none⟩,
    ⟨(some 9), .binOp .sub ti (.tmp 6) (.tmp 8) ti, none⟩,
    ⟨(some 1), .assign (.tmp 9), none⟩])
 (.seq (.seq (.reg [⟨(some 10), .move (.tmp 1), none⟩,
      ⟨(some 11), .binOp .lss ti (.tmp 10) (.const (.int .i64 0)) ti, none⟩])
   (.cond (.tmp 11) (.seq (.reg [⟨(some 4), .assign (.const (.int .i64 (-1))), none⟩])
     .ret)
    .skip))
  (.seq (.seq (.reg [⟨(some 5), .assign (.const (.int .i64 0)), none⟩])
    (.block 0 (.loop (.seq (.seq (.reg [⟨(some 12), .move (.tmp 5), none⟩,
           ⟨(some 13), .move (.tmp 0), none⟩,
           ⟨(some 14), .call ⟨(.builtin .len), #[(.tmp 13)], #[t]⟩, none⟩,
           ⟨(some 15), .binOp .lss ti (.tmp 12) (.tmp 14) ti, none⟩])
        (.cond (.tmp 15) .skip
         (.exit 0)))
       (.seq (.block 1 (.seq (.reg [⟨(some 18), .move (.tmp 0), none⟩,
             ⟨(some 19), .move (.tmp 5), none⟩,
             ⟨(some 20), .indexAddr t (.tmp 18) (.tmp 19), none⟩,
             ⟨(some 21), .load e (.tmp 20), none⟩,
             ⟨(some 22), .move (.tmp 1), none⟩,
             ⟨(some 23), .call ⟨(.value (.func fe)), #[(.tmp 21), (.tmp 22)], #[e, ti]⟩, none⟩,
             ⟨(some 1), .assign (.tmp 23), none⟩])
          (.seq (.reg [⟨(some 24), .move (.tmp 1), none⟩,
              ⟨(some 25), .binOp .lss ti (.tmp 24) (.const (.int .i64 0)) ti, none⟩])
           (.cond (.tmp 25) (.seq (.reg [⟨(some 4), .assign (.const (.int .i64 (-1))), none⟩])
             .ret)
            .skip))))
        (.reg [⟨(some 16), .move (.tmp 5), none⟩,
           ⟨(some 17), .binOp .add ti (.tmp 16) (.const (.int .i64 1)) ti, none⟩,
           ⟨(some 5), .assign (.tmp 17), none⟩]))))))
   (.seq (.reg [⟨(some 26), .move (.tmp 1), none⟩,
       ⟨(some 4), .assign (.tmp 26), none⟩])
    .ret)))))
def toDeepC (ti t u e d fe : Nat) : SCode := (.seq (.reg [⟨(some 2), .assign (.const (.slice none 0 0)), none⟩])
(.seq (.reg [⟨(some 5), .move (.tmp 0), none⟩,
    ⟨(some 6), .call ⟨(.builtin .len), #[(.tmp 5)], #[t]⟩, none⟩,
    ⟨(some 7), .makeSlice u (.tmp 6) (.tmp 6), none⟩,
    ⟨(some 3), .assign (.tmp 7), none⟩])
 (.seq (.seq (.reg [⟨(some 4), .assign (.const (.int .i64 0)), none⟩])
   (.block 0 (.loop (.seq (.seq (.reg [⟨(some 8), .move (.tmp 4), none⟩,
          ⟨(some 9), .move (.tmp 0), none⟩,
          ⟨(some 10), .call ⟨(.builtin .len), #[(.tmp 9)], #[t]⟩, none⟩,
          ⟨(some 11), .binOp .lss ti (.tmp 8) (.tmp 10) ti, none⟩])
       (.cond (.tmp 11) .skip
        (.exit 0)))
      (.seq (.block 1 (.reg [⟨(some 14), .move (.tmp 3), none⟩,
           ⟨(some 15), .move (.tmp 4), none⟩,
           ⟨(some 16), .move (.tmp 0), none⟩,
           ⟨(some 17), .move (.tmp 4), none⟩,
           ⟨(some 18), .indexAddr t (.tmp 16) (.tmp 17), none⟩,
           ⟨(some 19), .load e (.tmp 18), none⟩,
           ⟨(some 20), .call ⟨(.value (.func fe)), #[(.tmp 19)], #[e]⟩, none⟩,
           ⟨(some 21), .indexAddr u (.tmp 14) (.tmp 15), none⟩,
           ⟨none, .store d (.tmp 21) (.tmp 20), none⟩]))
       (.reg [⟨(some 12), .move (.tmp 4), none⟩,
          ⟨(some 13), .binOp .add ti (.tmp 12) (.const (.int .i64 1)) ti, none⟩,
          ⟨(some 4), .assign (.tmp 13), none⟩]))))))
  (.seq (.reg [⟨(some 22), .move (.tmp 3), none⟩,
      ⟨(some 2), .assign (.tmp 22), none⟩])
   .ret))))
def toFlatC (ti t e : Nat) : SCode := (.seq (.reg [⟨(some 2), .assign (.const (.slice none 0 0)), none⟩])
(.seq (.reg [⟨(some 5), .move (.tmp 0), none⟩,
    ⟨(some 6), .call ⟨(.builtin .len), #[(.tmp 5)], #[t]⟩, none⟩,
    ⟨(some 7), .makeSlice t (.tmp 6) (.tmp 6), none⟩,
    ⟨(some 3), .assign (.tmp 7), none⟩])
 (.seq (.seq (.reg [⟨(some 4), .assign (.const (.int .i64 0)), none⟩])
   (.block 0 (.loop (.seq (.seq (.reg [⟨(some 8), .move (.tmp 4), none⟩,
          ⟨(some 9), .move (.tmp 0), none⟩,
          ⟨(some 10), .call ⟨(.builtin .len), #[(.tmp 9)], #[t]⟩, none⟩,
          ⟨(some 11), .binOp .lss ti (.tmp 8) (.tmp 10) ti, none⟩])
       (.cond (.tmp 11) .skip
        (.exit 0)))
      (.seq (.block 1 (.reg [⟨(some 14), .move (.tmp 3), none⟩,
           ⟨(some 15), .move (.tmp 4), none⟩,
           ⟨(some 16), .move (.tmp 0), none⟩,
           ⟨(some 17), .move (.tmp 4), none⟩,
           ⟨(some 18), .indexAddr t (.tmp 16) (.tmp 17), none⟩,
           ⟨(some 19), .load e (.tmp 18), none⟩,
           ⟨(some 20), .indexAddr t (.tmp 14) (.tmp 15), none⟩,
           ⟨none, .store e (.tmp 20) (.tmp 19), none⟩]))
       (.reg [⟨(some 12), .move (.tmp 4), none⟩,
          ⟨(some 13), .binOp .add ti (.tmp 12) (.const (.int .i64 1)) ti, none⟩,
          ⟨(some 4), .assign (.tmp 13), none⟩]))))))
  (.seq (.reg [⟨(some 21), .move (.tmp 3), none⟩,
      ⟨(some 2), .assign (.tmp 21), none⟩])
   .ret))))
def eqDeepC (ti tb t e fe : Nat) : SCode := (.seq (.reg [⟨(some 4), .assign (.const (.bool false)), none⟩])
(.seq (.seq (.reg [⟨(some 6), .move (.tmp 0), none⟩,
     ⟨(some 7), .call ⟨(.builtin .len), #[(.tmp 6)], #[t]⟩, none⟩,
     ⟨(some 8), .move (.tmp 1), none⟩,
     ⟨(some 9), .call ⟨(.builtin .len), #[(.tmp 8)], #[t]⟩, none⟩,
     ⟨(some 10), .binOp .neq ti (.tmp 7) (.tmp 9) ti, none⟩])
  (.cond (.tmp 10) (.seq (.reg [⟨(some 4), .assign (.const (.bool false)), none⟩])
    .ret)
   .skip))
 (.seq (.seq (.reg [⟨(some 5), .assign (.const (.int .i64 0)), none⟩])
   (.block 0 (.loop (.seq (.seq (.reg [⟨(some 11), .move (.tmp 5), none⟩,
          ⟨(some 12), .move (.tmp 0), none⟩,
          ⟨(some 13), .call ⟨(.builtin .len), #[(.tmp 12)], #[t]⟩, none⟩,
          ⟨(some 14), .binOp .lss ti (.tmp 11) (.tmp 13) ti, none⟩])
       (.cond (.tmp 14) .skip
        (.exit 0)))
      (.seq (.block 1 (.seq (.draw [⟨(some 17), .move (.tmp 0), none⟩,
            ⟨(some 18), .move (.tmp 5), none⟩,
            ⟨(some 19), .indexAddr t (.tmp 17) (.tmp 18), none⟩,
            ⟨(some 20), .load e (.tmp 19), none⟩,
            ⟨(some 21), .move (.tmp 1), none⟩,
            ⟨(some 22), .move (.tmp 5), none⟩,
            ⟨(some 23), .indexAddr t (.tmp 21) (.tmp 22), none⟩,
            ⟨(some 24), .load e (.tmp 23), none⟩,
            ⟨(some 25), .call ⟨(.value (.func fe)), #[(.tmp 20), (.tmp 24)], #[e, e]⟩, none⟩,
            ⟨(some 26), .unOp .not tb (.tmp 25), none⟩] [[], [], [0, 1], [0, 1, 2], [], [], [4, 5], [4, 5, 6], [0, 1, 2, 3, 4, 5, 6, 7], [0, 1, 2, 3, 4, 5, 6, 7, 8]])
         (.cond (.tmp 26) (.seq (.reg [⟨(some 4), .assign (.const (.bool false)), none⟩])
           .ret)
          .skip)))
       (.reg [⟨(some 15), .move (.tmp 5), none⟩,
          ⟨(some 16), .binOp .add ti (.tmp 15) (.const (.int .i64 1)) ti, none⟩,
          ⟨(some 5), .assign (.tmp 16), none⟩]))))))
  (.seq (.reg [⟨(some 4), .assign (.const (.bool true)), none⟩])
   .ret))))
def eqFlatC (ti t e : Nat) : SCode := (.seq (.reg [⟨(some 4), .assign (.const (.bool false)), none⟩])
(.seq (.seq (.reg [⟨(some 6), .move (.tmp 0), none⟩,
     ⟨(some 7), .call ⟨(.builtin .len), #[(.tmp 6)], #[t]⟩, none⟩,
     ⟨(some 8), .move (.tmp 1), none⟩,
     ⟨(some 9), .call ⟨(.builtin .len), #[(.tmp 8)], #[t]⟩, none⟩,
     ⟨(some 10), .binOp .neq ti (.tmp 7) (.tmp 9) ti, none⟩])
  (.cond (.tmp 10) (.seq (.reg [⟨(some 4), .assign (.const (.bool false)), none⟩])
    .ret)
   .skip))
 (.seq (.seq (.reg [⟨(some 5), .assign (.const (.int .i64 0)), none⟩])
   (.block 0 (.loop (.seq (.seq (.reg [⟨(some 11), .move (.tmp 5), none⟩,
          ⟨(some 12), .move (.tmp 0), none⟩,
          ⟨(some 13), .call ⟨(.builtin .len), #[(.tmp 12)], #[t]⟩, none⟩,
          ⟨(some 14), .binOp .lss ti (.tmp 11) (.tmp 13) ti, none⟩])
       (.cond (.tmp 14) .skip
        (.exit 0)))
      (.seq (.block 1 (.seq (.draw [⟨(some 17), .move (.tmp 0), none⟩,
            ⟨(some 18), .move (.tmp 5), none⟩,
            ⟨(some 19), .indexAddr t (.tmp 17) (.tmp 18), none⟩,
            ⟨(some 20), .load e (.tmp 19), none⟩,
            ⟨(some 21), .move (.tmp 1), none⟩,
            ⟨(some 22), .move (.tmp 5), none⟩,
            ⟨(some 23), .indexAddr t (.tmp 21) (.tmp 22), none⟩,
            ⟨(some 24), .load e (.tmp 23), none⟩,
            ⟨(some 25), .binOp .neq e (.tmp 20) (.tmp 24) e, none⟩] [[], [], [0, 1], [0, 1, 2], [], [], [4, 5], [4, 5, 6], [0, 1, 2, 3, 4, 5, 6, 7]])
         (.cond (.tmp 25) (.seq (.reg [⟨(some 4), .assign (.const (.bool false)), none⟩])
           .ret)
          .skip)))
       (.reg [⟨(some 15), .move (.tmp 5), none⟩,
          ⟨(some 16), .binOp .add ti (.tmp 15) (.const (.int .i64 1)) ti, none⟩,
          ⟨(some 5), .assign (.tmp 16), none⟩]))))))
  (.seq (.reg [⟨(some 4), .assign (.const (.bool true)), none⟩])
   .ret))))
theorem tot_list {α : Type} {E : En α} {l : List α} : E.list.tot l = l.length + (l.map E.tot).sum := rfl
theorem sum_zero {α : Type} {l : List α} : (l.map fun _ => 0).sum = 0 := by
  induction l with
  | nil => rfl
  | cons x l ih => simp [ih]
/-- What is left of a budget. -/
def szR (b : Int) (t : Nat) : Int := if (t : Int) ≤ b then b - t else -1
def bigB : Int := 4611686018427387904
theorem szR_spec (b : Int) (t : Nat) : ((t : Int) ≤ b ∧ szR b t = b - t) ∨ (b < t ∧ szR b t = -1) := by
  unfold szR
  split <;> omega
/-- Equal or not. -/
noncomputable def eqB {α : Type} (x y : α) : Bool := open Classical in decide (x = y)
theorem eqB_iff {α : Type} {x y : α} : eqB x y = true ↔ x = y := by simp [eqB]
theorem eqB_not {α : Type} {x y : α} : eqB x y = false ↔ ¬ x = y := by simp [eqB]
theorem eqB_dec {α : Type} [DecidableEq α] {x y : α} : eqB x y = decide (x = y) := by
  by_cases h : x = y
  · rw [eqB_iff.2 h]; simp [h]
  · rw [eqB_not.2 h]; simp [h]
noncomputable def szSem {α : Type} (E : En α) : Fsem := semOf (fun i : Nat × α × Int => [E.av i.1 i.2.1, .int .i64 i.2.2]) (fun i => 0 ≤ i.2.2 ∧ i.2.2 ≤ bigB) (fun _ i => .int .i64 (szR i.2.2 (E.tot i.2.1)))
noncomputable def toSem {α : Type} (Ei Eo : En α) : Fsem := semOf (fun i : Nat × α => [Ei.av i.1 i.2]) (fun i => Ei.tot i.2 ≤ 1048576) (fun n i => Eo.av n i.2)
noncomputable def eqSem {α : Type} (E E' : En α) : Fsem := semOf (fun i : Nat × Nat × α × α => [E.av i.1 i.2.2.1, E'.av i.2.1 i.2.2.2]) (fun _ => True) (fun _ i => .bool (eqB (i.2.2.1) (i.2.2.2)))
section
variable {α : Type} {E Ei Eo : En α} {n : Nat}
theorem szSem_eq {τ : Nat} {x : α} {b : Int} : szSem E n [E.av τ x, .int .i64 b] = ⟨0 ≤ b ∧ b ≤ bigB, .int .i64 (szR b (E.tot x))⟩ :=
  semOf_eq (τ, x, b) rfl fun ⟨τ', x', b'⟩ h => by
    simp only [List.cons.injEq, AV.int.injEq, and_true, true_and] at h
    obtain ⟨h1, h2⟩ := h
    have := E.inj h1
    subst this h2
    exact ⟨Iff.rfl, rfl⟩
theorem toSem_eq {τ : Nat} {x : α} : toSem Ei Eo n [Ei.av τ x] = ⟨Ei.tot x ≤ 1048576, Eo.av n x⟩ :=
  semOf_eq (τ, x) rfl fun ⟨τ', x'⟩ h => by
    simp only [List.cons.injEq, and_true] at h
    have := Ei.inj h
    subst this
    exact ⟨Iff.rfl, rfl⟩
theorem eqSem_eq {E' : En α} {τ τ' : Nat} {x y : α} : eqSem E E' n [E.av τ x, E'.av τ' y] = ⟨True, .bool (eqB (x) (y))⟩ :=
  semOf_eq (τ, τ', x, y) rfl fun ⟨t, t', x', y'⟩ h => by
    simp only [List.cons.injEq, and_true] at h
    have h1 := E.inj h.1
    have h2 := E'.inj h.2
    subst h1 h2
    exact ⟨Iff.rfl, rfl⟩
end
/-- A variable's load gives the datum. -/
def FitE (P : Program) (e : Nat) {α : Type} (E : En α) : Prop := (P.info? e).isSome = true ∧ P.cellsOf e = E.w ∧ ∀ τ x, ldvR E.w (tyOf P e) (E.cs τ x) = ⟨True, E.av τ x⟩
section
variable {P : Program} {α : Type} {E Ei Eo : En α} {f : FuncId} {fn : Func} {nt : Nat}
theorem sum_flat (hE : ∀ x, E.tot x = 0) (l : List α) : (l.map E.tot).sum = 0 := by
  induction l with
  | nil => rfl
  | cons x l ih => simp [hE x, ih]
theorem szFlat_ok {ti t e : Nat} (hm : P.follows .mixedOrders = true) (hf : P.funcs[f]? = some fn) (hsl : slimF fn = some (szFlatC ti t, [.t 4], nt)) (ho : okF [] fn = true) (hnt : 2 ≤ nt)
    (ht : tyOf P t = .sl e) (hE : ∀ x, E.tot x = 0) : Pure P f (szSem E.list) := by
  refine semOf_pure fun ⟨τ, l, b⟩ n h2 ⟨hb1, hb2⟩ => ?_
  refine SatP.of_body Table.nil hm hf hsl ho h2 (by simpa using hnt) ?_
  simp (config := {contextual := true}) only [szFlatC, go_sem, ht, ↓reduceIte, Nat.reduceEqDiff, Nat.reduceAdd, true_and, and_true, tot_list, sum_flat hE, Nat.add_zero, List.length_map]
  intro hL
  simp only [bigB, maxLen] at hL hb1 hb2
  rw [wrap_ok (by omega) (by omega)]
  simp only [decide_eq_true_eq, decide_eq_false_iff_not, AV.int.injEq, true_and, szR]
  constructor
  · intro h
    rw [if_neg (by omega)]
  · intro h
    rw [if_pos (by omega)]
theorem sum_take_le (l : List α) (i : Nat) : ((l.take i).map E.tot).sum ≤ (l.map E.tot).sum := by
  conv => rhs; rw [← List.take_append_drop i l]
  rw [List.map_append, List.sum_append]
  exact Nat.le_add_right _ _
theorem sum_take_succ (l : List α) (i : Nat) (h : i < l.length) : ((l.take (i + 1)).map E.tot).sum = ((l.take i).map E.tot).sum + E.tot l[i] := by
  rw [List.take_succ_eq_append_getElem h, List.map_append, List.sum_append]
  simp
theorem sum_take_all (l : List α) (i : Nat) (h : l.length ≤ i) : ((l.take i).map E.tot).sum = (l.map E.tot).sum := by
  rw [List.take_of_length_le h]
theorem szDeep_ok {ti t e fe : Nat} {sem : Fsem} (hm : P.follows .mixedOrders = true) (hf : P.funcs[f]? = some fn) (hsl : slimF fn = some (szDeepC ti t e fe, [.t 4], nt)) (ho : okF [(fe, sem)] fn = true) (hnt : 2 ≤ nt)
    (ht : tyOf P t = .sl e) (hE : FitE P e E) (hfe : Pure P fe sem) (hs : ∀ n τ x b, sem n [E.av τ x, .int .i64 b] = ⟨0 ≤ b ∧ b ≤ bigB, .int .i64 (szR b (E.tot x))⟩) : Pure P f (szSem E.list) := by
  refine semOf_pure fun ⟨τ, l, b⟩ n h2 ⟨hb1, hb2⟩ => ?_
  have hT : Table P [(fe, sem)] := .cons hfe .nil
  refine SatP.of_body hT hm hf hsl ho h2 (by simpa using hnt) ?_
  obtain ⟨hE0, hE1, hE2⟩ := hE
  simp (config := {contextual := true}) only [szDeepC, go_sem, ht, ↓reduceIte, Nat.reduceEqDiff, Nat.reduceAdd, true_and, and_true, tot_list, List.length_map]
  intro hL
  have hL' := hL
  simp only [bigB, maxLen] at hL' hb1 hb2
  rw [wrap_ok (by omega) (by omega)]
  simp only [decide_eq_true_eq, decide_eq_false_iff_not, AV.int.injEq, true_and, szR]
  refine ⟨fun h => by rw [if_neg (by omega)], fun hb => ?_⟩
  refine VW_for hT h2 hm (fun i : Nat => ⟨[(5, .int .i64 i), (1, .int .i64 (b - l.length - ((l.take i).map E.tot).sum)), (0, .sl τ E.w (l.map (E.av τ)))], []⟩) (fun i => i ≤ l.length ∧ (((l.take i).map E.tot).sum : Int) ≤ b - l.length) (fun i => l.length - i) (· + 1) 0 ?_ ?_ ?_
  · simp; omega
  · simp [SubI, go_sem]
  · rintro i ⟨hi, hall⟩
    have hw : i < l.length → IntKind.i64.wrap ((i : Int) + 1) = (i : Int) + 1 := wrap_next hL
    have hn : ∀ h : i < l.length, nth (l.map (E.av τ)) i = E.av τ l[i] := fun h => nth_av E h
    have hw2 : (0 : Int) ≤ i := by omega
    have hc1 : 0 ≤ b - l.length - ((l.take i).map E.tot).sum := by omega
    have hc2 : b - l.length - ((l.take i).map E.tot).sum ≤ bigB := by simp only [bigB]; omega
    simp (config := {contextual := true}) only [go_sem, ht, hE0, hE1, hE2, hs, hn, hw, hw2, hc1, hc2, E.cells, ↓reduceIte, Nat.reduceEqDiff, Nat.reduceAdd, true_and, and_true, List.length_map, List.toList_toArray, List.mem_cons, List.not_mem_nil, or_false, forall_eq_or_imp, forall_eq, List.map_cons, List.map_nil, List.append_nil, decide_eq_true_eq, decide_eq_false_iff_not, Int.ofNat_lt, Int.toNat_natCast, SubI, List.cons_append, List.nil_append]
    have hsr : ∀ h : i < l.length, szR (b - l.length - ((l.take i).map E.tot).sum) (E.tot l[i]) = if ((l.length + ((l.take (i + 1)).map E.tot).sum : Nat) : Int) ≤ b then b - l.length - ((l.take (i + 1)).map E.tot).sum else -1 := fun h => by
      rw [sum_take_succ (E := E) l i h, szR]
      split <;> split <;> omega
    intro _
    refine ⟨fun a => ?_, fun h => ?_⟩
    · rw [hsr a]
      have h1 := sum_take_le (E := E) l (i + 1)
      split
      · refine ⟨fun h => by omega, fun _ => ⟨by omega, ⟨by omega, by omega⟩, by simp, rfl⟩⟩
      · refine ⟨fun _ => by rw [if_neg (by omega)], fun h => absurd (by omega) h⟩
    · rw [sum_take_all (E := E) l i (by omega)] at hall ⊢
      rw [if_pos (by omega)]
      congr 1
      omega
theorem eqDeep_ok {ti tb t e fe : Nat} {sem : Fsem} {E' : En α} (hm : P.follows .mixedOrders = true) (hf : P.funcs[f]? = some fn) (hsl : slimF fn = some (eqDeepC ti tb t e fe, [.t 4], nt)) (ho : okF [(fe, sem)] fn = true) (hnt : 2 ≤ nt)
    (ht : tyOf P t = .sl e) (hE : FitE P e E) (hE' : FitE P e E') (hfe : Pure P fe sem) (hs : ∀ n τ x τ' x', sem n [E.av τ x, E'.av τ' x'] = ⟨True, .bool (eqB (x) (x'))⟩) : Pure P f (eqSem E.list E'.list) := by
  refine semOf_pure fun ⟨τ, τ', l, l'⟩ n h2 _ => ?_
  have hT : Table P [(fe, sem)] := .cons hfe .nil
  refine SatP.of_body hT hm hf hsl ho h2 (by simpa using hnt) ?_
  obtain ⟨hE0, hE1, hE2⟩ := hE
  obtain ⟨hE0', hE1', hE2'⟩ := hE'
  have hEw : E'.w = E.w := hE1'.symm.trans hE1
  rw [hEw] at hE2'
  simp (config := {contextual := true}) only [eqDeepC, go_sem, ht, hEw, ↓reduceIte, Nat.reduceEqDiff, Nat.reduceAdd, true_and, and_true, List.length_map, List.mem_cons, List.not_mem_nil, or_false, forall_eq_or_imp, forall_eq]
  intro hL hL'
  refine ⟨fun h => ?_, fun h => ?_⟩
  · simp only [Bool.not_eq_true', decide_eq_false_iff_not] at h
    congr 1
    exact (eqB_not.2 fun h' => h (by rw [h'])).symm
  have hll : l.length = l'.length := by
    have : (l.length : Int) = l'.length := by simpa using h
    omega
  refine VW_for hT h2 hm (fun i : Nat => ⟨[(5, .int .i64 i), (0, .sl τ E.w (l.map (E.av τ))), (1, .sl τ' E.w (l'.map (E'.av τ')))], []⟩) (fun i => i ≤ l.length ∧ l.take i = l'.take i) (fun i => l.length - i) (· + 1) 0 ?_ ?_ ?_
  · simp
  · simp [SubI, go_sem]
  · rintro i ⟨hi, hall⟩
    have hw : i < l.length → IntKind.i64.wrap ((i : Int) + 1) = (i : Int) + 1 := wrap_next hL
    have hn : ∀ h : i < l.length, nth (l.map (E.av τ)) i = E.av τ l[i] := fun h => nth_av E h
    have hn' : ∀ h : i < l.length, nth (l'.map (E'.av τ')) i = E'.av τ' (l'[i]'(by omega)) := fun h => nth_av E' _
    have hw2 : (0 : Int) ≤ i := by omega
    have hlt : (i < l'.length) = (i < l.length) := by rw [hll]
    simp (config := {contextual := true}) [go_sem, ht, hE0, hE1, hE2, hE2', hs, hn, hn', hw, hw2, hlt, E.cells, E'.cells, SubI, eqB_iff, eqB_not]
    intro _
    refine ⟨fun a => ⟨fun hne h => hne (by subst h; rfl), fun he => ⟨by omega, by omega, ?_⟩⟩, fun h => ?_⟩
    · rw [List.take_succ_eq_append_getElem a, List.take_succ_eq_append_getElem (by omega : i < l'.length), hall, he]
    · rw [List.take_of_length_le h, List.take_of_length_le (by omega)] at hall
      exact hall
theorem eqFlat_ok {ti t e : Nat} {E' : En α} (hm : P.follows .mixedOrders = true) (hf : P.funcs[f]? = some fn) (hsl : slimF fn = some (eqFlatC ti t e, [.t 4], nt)) (ho : okF [] fn = true) (hnt : 2 ≤ nt)
    (ht : tyOf P t = .sl e) (hE : FitE P e E) (hE' : FitE P e E') (hs : ∀ τ x τ' x', vbin P .neq e (E.av τ x) (E'.av τ' x') = ⟨True, .bool (!(eqB (x) (x')))⟩) : Pure P f (eqSem E.list E'.list) := by
  refine semOf_pure fun ⟨τ, τ', l, l'⟩ n h2 _ => ?_
  have hT : Table P [] := .nil
  refine SatP.of_body hT hm hf hsl ho h2 (by simpa using hnt) ?_
  obtain ⟨hE0, hE1, hE2⟩ := hE
  obtain ⟨hE0', hE1', hE2'⟩ := hE'
  have hEw : E'.w = E.w := hE1'.symm.trans hE1
  rw [hEw] at hE2'
  simp (config := {contextual := true}) only [eqFlatC, go_sem, ht, hEw, ↓reduceIte, Nat.reduceEqDiff, Nat.reduceAdd, true_and, and_true, List.length_map, List.mem_cons, List.not_mem_nil, or_false, forall_eq_or_imp, forall_eq]
  intro hL hL'
  refine ⟨fun h => ?_, fun h => ?_⟩
  · simp only [Bool.not_eq_true', decide_eq_false_iff_not] at h
    congr 1
    exact (eqB_not.2 fun h' => h (by rw [h'])).symm
  have hll : l.length = l'.length := by
    have : (l.length : Int) = l'.length := by simpa using h
    omega
  refine VW_for hT h2 hm (fun i : Nat => ⟨[(5, .int .i64 i), (0, .sl τ E.w (l.map (E.av τ))), (1, .sl τ' E.w (l'.map (E'.av τ')))], []⟩) (fun i => i ≤ l.length ∧ l.take i = l'.take i) (fun i => l.length - i) (· + 1) 0 ?_ ?_ ?_
  · simp
  · simp [SubI, go_sem]
  · rintro i ⟨hi, hall⟩
    have hw : i < l.length → IntKind.i64.wrap ((i : Int) + 1) = (i : Int) + 1 := wrap_next hL
    have hn : ∀ h : i < l.length, nth (l.map (E.av τ)) i = E.av τ l[i] := fun h => nth_av E h
    have hn' : ∀ h : i < l.length, nth (l'.map (E'.av τ')) i = E'.av τ' (l'[i]'(by omega)) := fun h => nth_av E' _
    have hw2 : (0 : Int) ≤ i := by omega
    have hlt : (i < l'.length) = (i < l.length) := by rw [hll]
    simp (config := {contextual := true}) [go_sem, ht, hE0, hE1, hE2, hE2', hs, hn, hn', hw, hw2, hlt, E.cells, E'.cells, SubI, eqB_iff, eqB_not]
    intro _
    refine ⟨fun a => ⟨fun hne h => hne (by subst h; rfl), fun he => ⟨by omega, by omega, ?_⟩⟩, fun h => ?_⟩
    · rw [List.take_succ_eq_append_getElem a, List.take_succ_eq_append_getElem (by omega : i < l'.length), hall, he]
    · rw [List.take_of_length_le h, List.take_of_length_le (by omega)] at hall
      exact hall
/-- A new variable's element, and what a store makes of it. -/
def FitZ (P : Program) (d : Nat) {α : Type} (E : En α) : Prop :=
  (P.info? d).isSome = true ∧ P.cellsOf d = E.w ∧ zOk P d = true ∧ (∀ y ∈ zcells P d, y.isD = true) ∧ (zel P d).cells = zcells P d ∧ (zcells P d).length = E.w ∧ P.bytesOf d ≤ 1048576 ∧ ∀ τ x, setEl (zel P d) 0 (E.cs τ x) = E.av τ x
theorem tot_mem {l : List α} {x : α} (h : x ∈ l) : E.tot x ≤ (l.map E.tot).sum := by
  induction l with
  | nil => cases h
  | cons y l ih =>
    simp only [List.map_cons, List.sum_cons]
    cases h with
    | head => omega
    | tail _ h => have := ih h; omega
theorem set_fill {A : Type} {l : List A} {z : A} {i m : Nat} (hi : l.length = i) (hm : i < m) (v : A) : (l ++ List.replicate (m - i) z).set i v = l ++ [v] ++ List.replicate (m - (i + 1)) z := by
  subst hi
  obtain ⟨q, rfl⟩ : ∃ q, m = l.length + (q + 1) := ⟨m - l.length - 1, by omega⟩
  have h1 : l.length + (q + 1) - l.length = q + 1 := by omega
  have h2 : l.length + (q + 1) - (l.length + 1) = q := by omega
  rw [h1, h2, List.replicate_succ, List.set_append_right _ _ (Nat.le_refl _)]
  simp
theorem nth_fill {l : List AV} {z : AV} {i m : Nat} (hi : l.length = i) (hm : i < m) : nth (l ++ List.replicate (m - i) z) i = z := by
  subst hi
  simp only [nth, List.getD_eq_getElem?_getD]
  rw [List.getElem?_append_right (Nat.le_refl _), Nat.sub_self, List.getElem?_replicate, if_pos (by omega)]
  rfl
theorem toDeep_ok {ti t u e d fe : Nat} {sem : Fsem} (hm : P.follows .mixedOrders = true) (hf : P.funcs[f]? = some fn) (hsl : slimF fn = some (toDeepC ti t u e d fe, [.t 2], nt)) (ho : okF [(fe, sem)] fn = true) (hnt : 2 ≤ nt)
    (ht : tyOf P t = .sl e) (hu : tyOf P u = .sl d) (hE : FitE P e Ei) (hZ : FitZ P d Eo) (hfe : Pure P fe sem) (hs : ∀ n τ x, sem n [Ei.av τ x] = ⟨Ei.tot x ≤ 1048576, Eo.av n x⟩) : Pure P f (toSem Ei.list Eo.list) := by
  refine semOf_pure fun ⟨τ, l⟩ n h2 hb => ?_
  have hT : Table P [(fe, sem)] := .cons hfe .nil
  refine SatP.of_body hT hm hf hsl ho h2 (by simp; omega) ?_
  obtain ⟨hE0, hE1, hE2⟩ := hE
  obtain ⟨z0, z1, z2, z3, z4, z5, z6, z7⟩ := hZ
  have hb' : l.length + (l.map Ei.tot).sum ≤ 1048576 := hb
  have hby : P.bytesOf d * l.length ≤ 1099511627776 := Nat.le_trans (Nat.mul_le_mul z6 (by omega : l.length ≤ 1048576)) (by omega)
  have hby' : (P.bytesOf d : Int) * (l.length : Int) ≤ 140737488355328 := by
    rw [← Int.natCast_mul]
    omega
  have hpos : 0 < Eo.w := Eo.pos
  have hl0 : (0 : Int) ≤ l.length := by omega
  have hl1 : (l.length : Int) ≤ 140737488355328 := by omega
  simp (config := {contextual := true}) only [toDeepC, go_sem, ht, hu, z0, z1, z2, z3, z4, hpos, hl0, hl1, hby', ↓reduceIte, Nat.reduceEqDiff, Nat.reduceAdd, true_and, and_true, List.length_map, List.mem_cons, List.not_mem_nil, or_false, forall_eq_or_imp, forall_eq, Int.le_refl, List.nil_append, List.length_nil, Int.toNat_natCast, implies_true, z3]
  intro hL
  refine VW_for hT h2 hm (fun i : Nat => ⟨[(4, .int .i64 i), (3, .osl 0 Eo.w 0 l.length), (0, .sl τ Ei.w (l.map (Ei.av τ)))], [.row d Eo.w ((l.map (Eo.av n)).take i ++ List.replicate (l.length - i) (zel P d))]⟩) (fun i => i ≤ l.length) (fun i => l.length - i) (· + 1) 0 ?_ ?_ ?_
  · simp
  · simp [SubI, go_sem]
  · rintro i hi
    have hw : i < l.length → IntKind.i64.wrap ((i : Int) + 1) = (i : Int) + 1 := wrap_next hL
    have hn : ∀ h : i < l.length, nth (l.map (Ei.av τ)) i = Ei.av τ l[i] := fun h => nth_av Ei h
    have hw2 : (0 : Int) ≤ i := by omega
    have hlen : ((l.map (Eo.av n)).take i).length = i := by simp; omega
    have hz1 : ∀ h : i < l.length, nth ((l.map (Eo.av n)).take i ++ List.replicate (l.length - i) (zel P d)) i = zel P d := fun h => nth_fill hlen h
    have hset : ∀ h : i < l.length, ((l.map (Eo.av n)).take i ++ List.replicate (l.length - i) (zel P d)).set i (Eo.av n l[i]) = (l.map (Eo.av n)).take (i + 1) ++ List.replicate (l.length - (i + 1)) (zel P d) := fun h => by
      rw [set_fill hlen h, List.take_succ_eq_append_getElem (by simpa using h)]
      simp
    have hcs : ∀ τ x, (Eo.cs τ x).length = Eo.w := Eo.len
    have hdrop : List.drop Eo.w (zcells P d) = [] := List.drop_of_length_le (by omega)
    have htot : ∀ h : i < l.length, Ei.tot l[i] ≤ 1048576 := fun h => by
      have := tot_mem (E := Ei) (List.getElem_mem h)
      omega
    have hrl : i + (l.length - i) = l.length := by omega
    have hlt : min i l.length + (l.length - i) = l.length := by omega
    simp (config := {contextual := true}) [go_sem, ht, hu, hE0, hE1, hE2, z0, z1, z4, z7, hs, hn, hw, hw2, hz1, hset, hcs, hdrop, htot, hrl, hlt, Ei.cells, Eo.cells, SubI]
    intro _
    refine ⟨fun a => ⟨by omega, by omega⟩, fun h => ?_⟩
    have hall : List.take i (List.map (Eo.av n) l) = List.map (Eo.av n) l := List.take_of_length_le (by simpa using h)
    have hall2 : List.take l.length (List.take i (List.map (Eo.av n) l)) = List.map (Eo.av n) l := by
      rw [hall]
      exact List.take_of_length_le (by simp)
    rw [hall2]
    refine ⟨.inr ⟨by omega, fun x hx y hy => ?_⟩, rfl⟩
    obtain ⟨a, _, rfl⟩ := List.mem_map.1 hx
    rw [Eo.cells] at hy
    exact Eo.nz n a (by omega) y hy
theorem toFlat_ok {ti t e : Nat} (hm : P.follows .mixedOrders = true) (hf : P.funcs[f]? = some fn) (hsl : slimF fn = some (toFlatC ti t e, [.t 2], nt)) (ho : okF [] fn = true) (hnt : 2 ≤ nt)
    (ht : tyOf P t = .sl e) (hE : FitE P e Ei) (hZ : FitZ P e Eo) (hw0 : Ei.w = Eo.w) (hs : ∀ n τ x, Ei.av τ x = Eo.av n x) : Pure P f (toSem Ei.list Eo.list) := by
  refine semOf_pure fun ⟨τ, l⟩ n h2 hb => ?_
  have hT : Table P [] := .nil
  refine SatP.of_body hT hm hf hsl ho h2 (by simp; omega) ?_
  obtain ⟨hE0, hE1, hE2⟩ := hE
  obtain ⟨z0, z1, z2, z3, z4, z5, z6, z7⟩ := hZ
  have hE3 : ∀ x, ldvR Eo.w (tyOf P e) (Eo.cs n x) = ⟨True, Eo.av n x⟩ := fun x => by
    have h1 := hE2 1 x
    rw [hs n 1 x, hw0] at h1
    have h3 := congrArg AV.cells (hs n 1 x)
    rw [Ei.cells, Eo.cells] at h3
    rw [h3] at h1
    exact h1
  have hb' : l.length + (l.map Ei.tot).sum ≤ 1048576 := hb
  have hby : P.bytesOf e * l.length ≤ 1099511627776 := Nat.le_trans (Nat.mul_le_mul z6 (by omega : l.length ≤ 1048576)) (by omega)
  have hby' : (P.bytesOf e : Int) * (l.length : Int) ≤ 140737488355328 := by
    rw [← Int.natCast_mul]
    omega
  have hpos : 0 < Eo.w := Eo.pos
  have hl0 : (0 : Int) ≤ l.length := by omega
  have hl1 : (l.length : Int) ≤ 140737488355328 := by omega
  simp (config := {contextual := true}) only [toFlatC, go_sem, ht, z0, z1, z2, z3, z4, hpos, hl0, hl1, hby', ↓reduceIte, Nat.reduceEqDiff, Nat.reduceAdd, true_and, and_true, List.length_map, List.mem_cons, List.not_mem_nil, or_false, forall_eq_or_imp, forall_eq, Int.le_refl, List.nil_append, List.length_nil, Int.toNat_natCast, implies_true, z3]
  intro hL
  refine VW_for hT h2 hm (fun i : Nat => ⟨[(4, .int .i64 i), (3, .osl 0 Eo.w 0 l.length), (0, .sl τ Ei.w (l.map (Ei.av τ)))], [.row e Eo.w ((l.map (Eo.av n)).take i ++ List.replicate (l.length - i) (zel P e))]⟩) (fun i => i ≤ l.length) (fun i => l.length - i) (· + 1) 0 ?_ ?_ ?_
  · simp
  · simp [SubI, go_sem]
  · rintro i hi
    have hw : i < l.length → IntKind.i64.wrap ((i : Int) + 1) = (i : Int) + 1 := wrap_next hL
    have hn : ∀ h : i < l.length, nth (l.map (Ei.av τ)) i = Eo.av n l[i] := fun h => (nth_av Ei h).trans (hs n τ _)
    have hw2 : (0 : Int) ≤ i := by omega
    have hlen : ((l.map (Eo.av n)).take i).length = i := by simp; omega
    have hz1 : ∀ h : i < l.length, nth ((l.map (Eo.av n)).take i ++ List.replicate (l.length - i) (zel P e)) i = zel P e := fun h => nth_fill hlen h
    have hset : ∀ h : i < l.length, ((l.map (Eo.av n)).take i ++ List.replicate (l.length - i) (zel P e)).set i (Eo.av n l[i]) = (l.map (Eo.av n)).take (i + 1) ++ List.replicate (l.length - (i + 1)) (zel P e) := fun h => by
      rw [set_fill hlen h, List.take_succ_eq_append_getElem (by simpa using h)]
      simp
    have hcs : ∀ τ x, (Eo.cs τ x).length = Eo.w := Eo.len
    have hdrop : List.drop Eo.w (zcells P e) = [] := List.drop_of_length_le (by omega)
    have htot : ∀ h : i < l.length, Ei.tot l[i] ≤ 1048576 := fun h => by
      have := tot_mem (E := Ei) (List.getElem_mem h)
      omega
    have hrl : i + (l.length - i) = l.length := by omega
    have hlt : min i l.length + (l.length - i) = l.length := by omega
    simp (config := {contextual := true}) [go_sem, ht, hE0, hE1, hE3, z0, z1, z4, z7, hw0, hn, hw, hw2, hz1, hset, hcs, hdrop, htot, hrl, hlt, Ei.cells, Eo.cells, SubI]
    intro _
    refine ⟨fun a => ⟨by omega, by omega⟩, fun h => ?_⟩
    have hall : List.take i (List.map (Eo.av n) l) = List.map (Eo.av n) l := List.take_of_length_le (by simpa using h)
    have hall2 : List.take l.length (List.take i (List.map (Eo.av n) l)) = List.map (Eo.av n) l := by
      rw [hall]
      exact List.take_of_length_le (by simp)
    rw [hall2]
    refine ⟨.inr ⟨by omega, fun x hx y hy => ?_⟩, rfl⟩
    obtain ⟨a, _, rfl⟩ := List.mem_map.1 hx
    rw [Eo.cells] at hy
    exact Eo.nz n a (by omega) y hy
end
end Go.Ve
namespace Go.Ve
open Go.RowKit Go.Deep
set_option linter.unusedVariables false
set_option linter.unusedSimpArgs false
section
variable {α β : Type}
def En.prod (E : En α) (F : En β) : En (α × β) where
  w := E.w + F.w
  pos := Nat.lt_of_lt_of_le E.pos (Nat.le_add_right _ _)
  one := false
  cs τ p := E.cs τ p.1 ++ F.cs τ p.2
  tot p := E.tot p.1 + F.tot p.2
  dec l := (E.dec (l.take E.w), F.dec (l.drop E.w))
  len τ p := by rw [List.length_append, E.len, F.len]
  hone h := by cases h
  dat τ p y hy := by
    rcases List.mem_append.1 hy with hy | hy
    · exact E.dat τ _ y hy
    · exact F.dat τ _ y hy
  nz τ p hτ y hy := by
    rcases List.mem_append.1 hy with hy | hy
    · exact E.nz τ _ hτ y hy
    · exact F.nz τ _ hτ y hy
  hdec τ p := by
    rw [List.take_left' (E.len τ p.1), List.drop_left' (E.len τ p.1), E.hdec, F.hdec]
/-- A struct whose fields lie as those of E. -/
def En.iso (E : En α) (f : β → α) (g : α → β) (h : ∀ x, g (f x) = x) : En β where
  w := E.w
  pos := E.pos
  one := false
  cs τ x := E.cs τ (f x)
  tot x := E.tot (f x)
  dec l := g (E.dec l)
  len τ x := E.len τ _
  hone h := by cases h
  dat τ x := E.dat τ _
  nz τ x := E.nz τ _
  hdec τ x := by rw [E.hdec, h]
end
theorem rowq_one {α : Type} {E : En α} {ok : α → Prop} {w : World} {cs : List Value} (h : RowQ [(E.w, QE E ok)] w cs) : QE E ok w cs := by
  unfold RowQ at h
  obtain ⟨c, rest, rfl, hl, hq, h⟩ := h
  unfold RowQ at h
  subst h
  simpa using hq
theorem rowq_cons {α β : Type} {E : En α} {F : En β} {ok : α → Prop} {ok' : β → Prop} {w : World} {r : List (Nat × (World → List Value → Prop))} {cs : List Value} (hr : ∀ cs, RowQ r w cs → QE F ok' w cs) (h : RowQ ((E.w, QE E ok) :: r) w cs) : QE (E.prod F) (fun p => ok p.1 ∧ ok' p.2) w cs := by
  unfold RowQ at h
  obtain ⟨c, rest, rfl, hl, ⟨x, h1, h2⟩, h⟩ := h
  obtain ⟨y, h3, h4⟩ := hr rest h
  exact ⟨(x, y), ⟨h1, h3⟩, h2.append h4⟩
theorem qe_iso {α β : Type} {E : En α} {ok : α → Prop} {f : β → α} {g : α → β} {h : ∀ x, g (f x) = x} (hf : ∀ a, f (g a) = a) {w : World} {cs : List Value} (hq : QE E ok w cs) : QE (E.iso f g h) (fun x => ok (f x)) w cs := by
  obtain ⟨a, h1, h2⟩ := hq
  refine ⟨g a, by simp only [hf]; exact h1, ?_⟩
  show ReadAs w cs (E.cs 1 (f (g a)))
  rw [hf]
  exact h2
theorem Reads.imp {P : Program} {T : TypeId} {Q Q' : World → List Value → Prop} (h : Reads P T Q) (hq : ∀ w cs, Q w cs → Q' w cs) : Reads P T Q' :=
  fun H enc w base spare held fuel cs x hx hf => hq _ _ (h H enc w base spare held fuel cs x hx hf)
theorem rep_agg {α : Type} {E : En α} (h1 : E.one = false) {w : World} {β : Nat → Option Nat} {cs : Array Value} {x : α} (h : ReadAs w cs.toList (E.cs 1 x)) : Rep w (oldD w) β (.agg cs) (E.av 1 x) := by
  have he : E.av 1 x = .agg (E.cs 1 x) := by simp [En.av, h1]
  rw [he]
  have key : ∀ (j : Nat) (y : AV), (E.cs 1 x)[j]? = some y → ∃ u, cs[j]? = some u ∧ RepD w (oldD w) u y := fun j y hy => by simpa using h.2 j y hy
  refine .agg cs _ (fun j => (cs[j]?).getD undef) (by simpa using h.1) (fun j y hy => ?_) (fun j y hy => ?_) (fun j y hy => ?_)
  all_goals
    obtain ⟨u, u1, u2⟩ := key j y hy
    simp only [u1, Option.getD_some]
  · exact u2.oneCell
  · exact .data _ _ u2
theorem rep_one {α : Type} {E : En α} (h1 : E.one = true) {w : World} {β : Nat → Option Nat} {v : Value} {x : α} (h : ReadAs w [v] (E.cs 1 x)) : Rep w (oldD w) β v (E.av 1 x) := by
  rcases E.shape 1 x with ⟨h2, h3⟩ | h2
  · rw [h3] at h
    obtain ⟨u, u1, u2⟩ := h.2 0 _ rfl
    simp at u1
    subst u1
    exact .data _ _ u2
  · exfalso
    have := E.len 1 x
    rw [E.hone h1] at this
    have hc := E.cells 1 x
    have hd := E.dat 1 x
    simp only [En.av, h1, cond_true] at h2
    match hcs : E.cs 1 x, this, hd with
    | [y], _, hd =>
      rw [hcs] at h2
      simp at h2
      have := hd y (by simp)
      rw [h2] at this
      cases this
/-- What a contract says of a call from the old memory. -/
theorem law_calls {P : Program} {f : FuncId} {args : List AV} {vs : List Value} {W : World} (h : SatM P 2 f [] args [] (.bool true)) (hl : vs.length = args.length) (ha : ∀ (i : Nat) (x : AV), args[i]? = some x → ∃ v, vs[i]? = some v ∧ Rep W (oldD W) (fun _ => none) v x ∧ ∀ q, ¬ Names x q) :
    Calls P f vs.toArray W fun e W' => e = .returned (.bool true) ∧ Below W.heap.size W W' := by
  refine (h.2 W (oldD W) (fun _ => none) vs (by omega) ⟨fun r R hr => by simp at hr, fun r r' g h1 => by obtain ⟨R, h1, _⟩ := h1; simp at h1, fun r g ρ h1 => by obtain ⟨R, h1, _⟩ := h1; simp at h1⟩ (fun ρ b hb => hb.2) (fun ρ ρ' b h1 h2 => h1.1.trans h2.1.symm)
    (fun r t cs y q hr => by simp at hr) hl (fun i x hx => by obtain ⟨v, h1, h2, h3⟩ := ha i x hx; exact ⟨v, h1, h2, fun q hq => (h3 q hq).elim⟩)).mono ?_
  rintro e W' ⟨v, D', β', rfl, hM, _, _, hv, _⟩
  rw [rep_bool hv]
  exact ⟨rfl, hM.os, hM.tape, hM.output, hM.size, fun b hb => hM.frame b hb fun ⟨r, hr, _⟩ => by obtain ⟨R, h1, _⟩ := hr; simp at h1⟩
theorem en_noNames {α : Type} (E : En α) (τ : Nat) (x : α) : ∀ q, ¬ Names (E.av τ x) q := by
  intro q hq
  rcases E.shape τ x with ⟨h, _⟩ | h
  · revert h hq
    cases E.av τ x <;> intro hq h <;> first | (cases hq; done) | (cases h; done)
  · rw [h] at hq
    cases hq with
    | agg _ y _ hy hq =>
      have := E.dat τ x y hy
      cases y <;> first | (cases hq; done) | (cases this; done)
end Go.Ve
namespace Go.Ve
open Go.RowKit
set_option linter.unusedVariables false
set_option linter.unusedSimpArgs false
section
variable {P : Program} {n k : Nat} {T : List (Nat × Fsem)}
/-- What the end of a round must show: the next head, or that there is none. -/
def nextL {α B : Type} (S : Env → Env → Prop) (l : List α) (I : List α → List α → B → Env) (R : List α → List α → B → Prop) (s : List α × List α × B) (e' : Env) : Prop :=
  match s.2.1 with
  | [] => False
  | x :: post => s.1 ++ x :: post = l ∧ ∃ b', R (s.1 ++ [x]) post b' ∧ S e' (I (s.1 ++ [x]) post b')
theorem VW_listS {S : Env → Env → Prop} (hS : ∀ e e', S e e' → Sub k e e') (hT : Table P T) (h2 : 2 ≤ n) (hm : P.follows .mixedOrders = true) {a : SCode} {Q : Exit → Env → Prop} {e : Env} {α B : Type} (l : List α) (I : List α → List α → B → Env) (R : List α → List α → B → Prop) (b0 : B)
    (h0 : R [] l b0) (he : S e (I [] l b0))
    (hnil : ∀ b, R l [] b → vc P n k T a (thenQ (fun _ => False) Q) (I l [] b))
    (hcons : ∀ pre x post b, pre ++ x :: post = l → pre.length + (post.length + 1) = l.length → R pre (x :: post) b → vc P n k T a (thenQ (fun e' => ∃ b', R (pre ++ [x]) post b' ∧ S e' (I (pre ++ [x]) post b')) Q) (I pre (x :: post) b)) : VW P n k T (.loop a) Q e := by
  refine VW_loop hT h2 hm (σ := List α × List α × B) (fun s => I s.1 s.2.1 s.2.2) (fun s => s.1 ++ s.2.1 = l ∧ R s.1 s.2.1 s.2.2) (fun s => s.2.1.length) ([], l, b0) ⟨rfl, h0⟩ (hS _ _ he)
    (nextL S l I R) ?_ ?_
  · rintro ⟨pre, post, b⟩ e' h
    cases post with
    | nil => exact h.elim
    | cons x post =>
      obtain ⟨h1, b', h2, h3⟩ := h
      exact ⟨(pre ++ [x], post, b'), Nat.lt_succ_self _, ⟨by simpa using h1, h2⟩, hS _ _ h3⟩
  · rintro ⟨pre, post, b⟩ ⟨hl, hR⟩
    cases post with
    | nil =>
      have hp : pre = l := by simpa using hl
      subst hp
      exact hnil b hR
    | cons x post =>
      have : nextL S l I R (pre, x :: post, b) = fun e' => ∃ b', R (pre ++ [x]) post b' ∧ S e' (I (pre ++ [x]) post b') := by
        funext e'
        have hl' : pre ++ x :: post = l := hl
        simp only [nextL, hl', true_and]
      rw [this]
      exact hcons pre x post b hl (by rw [← hl]; simp) hR
/-- A loop over a list; the roots stay as they are. -/
theorem VW_list (hT : Table P T) (h2 : 2 ≤ n) (hm : P.follows .mixedOrders = true) {a : SCode} {Q : Exit → Env → Prop} {e : Env} {α B : Type} (l : List α) (I : List α → List α → B → Env) (R : List α → List α → B → Prop) (b0 : B)
    (h0 : R [] l b0) (he : SubI e (I [] l b0))
    (hnil : ∀ b, R l [] b → vc P n k T a (thenQ (fun _ => False) Q) (I l [] b))
    (hcons : ∀ pre x post b, pre ++ x :: post = l → pre.length + (post.length + 1) = l.length → R pre (x :: post) b → vc P n k T a (thenQ (fun e' => ∃ b', R (pre ++ [x]) post b' ∧ SubI e' (I (pre ++ [x]) post b')) Q) (I pre (x :: post) b)) : VW P n k T (.loop a) Q e :=
  VW_listS (fun _ _ h => h.sub) hT h2 hm l I R b0 h0 he hnil hcons
/-- A loop over a list; the roots are seen anew at the loop's head. -/
theorem VW_listE (viv : List (Nat × Nat × Nat)) (anch : List Nat) (hT : Table P T) (h2 : 2 ≤ n) (hm : P.follows .mixedOrders = true) {a : SCode} {Q : Exit → Env → Prop} {e : Env} {α B : Type} (l : List α) (I : List α → List α → B → Env) (R : List α → List α → B → Prop) (b0 : B)
    (h0 : R [] l b0) (he : SubE k viv anch e (I [] l b0))
    (hnil : ∀ b, R l [] b → vc P n k T a (thenQ (fun _ => False) Q) (I l [] b))
    (hcons : ∀ pre x post b, pre ++ x :: post = l → pre.length + (post.length + 1) = l.length → R pre (x :: post) b → vc P n k T a (thenQ (fun e' => ∃ b', R (pre ++ [x]) post b' ∧ SubE k viv anch e' (I (pre ++ [x]) post b')) Q) (I pre (x :: post) b)) : VW P n k T (.loop a) Q e :=
  VW_listS (fun _ _ h => h.sub) hT h2 hm l I R b0 h0 he hnil hcons
end
/-- Values that a loop leaves alone. -/
def keepT (tm : List (Nat × AV)) (ks : List Nat) : List (Nat × AV) := ks.map fun t => (t, tv tm t)
@[go_sem] theorem keepT_nil {tm : List (Nat × AV)} : keepT tm [] = [] := rfl
@[go_sem] theorem keepT_cons {tm : List (Nat × AV)} {k : Nat} {ks : List Nat} : keepT tm (k :: ks) = (k, tv tm k) :: keepT tm ks := rfl
section
variable {P : Program} {n k : Nat} {T : List (Nat × Fsem)}
/-- A loop over a list: what is turned each round is told, what is kept is named; the roots stay as they are. -/
theorem VW_listK (hT : Table P T) (h2 : 2 ≤ n) (hm : P.follows .mixedOrders = true) {a : SCode} {Q : Exit → Env → Prop} {e : Env} {α B : Type} (l : List α) (kept : List Nat) (I : List α → List α → B → List (Nat × AV)) (R : List α → List α → B → Prop) (b0 : B)
    (h0 : R [] l b0) (he : SubI e ⟨I [] l b0 ++ keepT e.tm kept, e.st⟩)
    (hnil : ∀ b, R l [] b → vc P n k T a (thenQ (fun _ => False) Q) ⟨I l [] b ++ keepT e.tm kept, e.st⟩)
    (hcons : ∀ pre x post b, pre ++ x :: post = l → pre.length + (post.length + 1) = l.length → R pre (x :: post) b → vc P n k T a (thenQ (fun e' => ∃ b', R (pre ++ [x]) post b' ∧ SubI e' ⟨I (pre ++ [x]) post b' ++ keepT e.tm kept, e.st⟩) Q) ⟨I pre (x :: post) b ++ keepT e.tm kept, e.st⟩) : VW P n k T (.loop a) Q e :=
  VW_list hT h2 hm l (fun pre post b => ⟨I pre post b ++ keepT e.tm kept, e.st⟩) R b0 h0 he hnil hcons
/-- The same; the roots are seen anew at the loop's head. -/
theorem VW_listKE (viv : List (Nat × Nat × Nat)) (anch : List Nat) (hT : Table P T) (h2 : 2 ≤ n) (hm : P.follows .mixedOrders = true) {a : SCode} {Q : Exit → Env → Prop} {e : Env} {α B : Type} (l : List α) (kept : List Nat) (st : List α → List α → B → List Root) (I : List α → List α → B → List (Nat × AV)) (R : List α → List α → B → Prop) (b0 : B)
    (h0 : R [] l b0) (he : SubE k viv anch e ⟨I [] l b0 ++ keepT e.tm kept, st [] l b0⟩)
    (hnil : ∀ b, R l [] b → vc P n k T a (thenQ (fun _ => False) Q) ⟨I l [] b ++ keepT e.tm kept, st l [] b⟩)
    (hcons : ∀ pre x post b, pre ++ x :: post = l → pre.length + (post.length + 1) = l.length → R pre (x :: post) b → vc P n k T a (thenQ (fun e' => ∃ b', R (pre ++ [x]) post b' ∧ SubE k viv anch e' ⟨I (pre ++ [x]) post b' ++ keepT e.tm kept, st (pre ++ [x]) post b'⟩) Q) ⟨I pre (x :: post) b ++ keepT e.tm kept, st pre (x :: post) b⟩) : VW P n k T (.loop a) Q e :=
  VW_listE viv anch hT h2 hm l (fun pre post b => ⟨I pre post b ++ keepT e.tm kept, st pre post b⟩) R b0 h0 he hnil hcons
/-- The same; the roots at the head are those ahead of the loop. -/
theorem VW_listKe (viv : List (Nat × Nat × Nat)) (anch : List Nat) (hT : Table P T) (h2 : 2 ≤ n) (hm : P.follows .mixedOrders = true) {a : SCode} {Q : Exit → Env → Prop} {e : Env} {α B : Type} (l : List α) (kept : List Nat) (I : List α → List α → B → List (Nat × AV)) (R : List α → List α → B → Prop) (b0 : B)
    (h0 : R [] l b0) (he : SubE k viv anch e ⟨I [] l b0 ++ keepT e.tm kept, e.st⟩)
    (hnil : ∀ b, R l [] b → vc P n k T a (thenQ (fun _ => False) Q) ⟨I l [] b ++ keepT e.tm kept, e.st⟩)
    (hcons : ∀ pre x post b, pre ++ x :: post = l → pre.length + (post.length + 1) = l.length → R pre (x :: post) b → vc P n k T a (thenQ (fun e' => ∃ b', R (pre ++ [x]) post b' ∧ SubE k viv anch e' ⟨I (pre ++ [x]) post b' ++ keepT e.tm kept, e.st⟩) Q) ⟨I pre (x :: post) b ++ keepT e.tm kept, e.st⟩) : VW P n k T (.loop a) Q e :=
  VW_listE viv anch hT h2 hm l (fun pre post b => ⟨I pre post b ++ keepT e.tm kept, e.st⟩) R b0 h0 he hnil hcons
end
@[go_sem] theorem nth_pre {a b : List AV} {y : AV} : nth (a ++ y :: b) a.length = y := by simp [nth]
@[go_sem] theorem nth_pre2 {a b : List AV} {y z : AV} : nth (a ++ y :: z :: b) (a.length + 1) = z := by simp [nth]
@[go_sem] theorem nth_pre2_map {α : Type} {f : α → AV} {l : List α} {b : List AV} {y z : AV} : nth (l.map f ++ y :: z :: b) (l.length + 1) = z := by
  have := nth_pre2 (a := l.map f) (b := b) (y := y) (z := z)
  rwa [List.length_map] at this
@[go_sem] theorem nth_pre_map {α : Type} {f : α → AV} {l : List α} {b : List AV} {y : AV} : nth (l.map f ++ y :: b) l.length = y := by
  have := nth_pre (a := l.map f) (b := b) (y := y)
  rwa [List.length_map] at this
section
variable {pos : Nat → Option Nat}
def rnpO (p : Option Nat) (w off len : Nat) : AV :=
  match p with
  | some k => .osl k w off len
  | none => .undef
def rnpP (p : Option Nat) (w i j : Nat) : AV :=
  match p with
  | some k => .ptr k w i j
  | none => .undef
def rnpM (p : Option Nat) : AV :=
  match p with
  | some k => .map k
  | none => .undef
@[go_sem] theorem rnpO_some {k w off len : Nat} : rnpO (some k) w off len = .osl k w off len := rfl
@[go_sem] theorem rnpP_some {k w i j : Nat} : rnpP (some k) w i j = .ptr k w i j := rfl
@[go_sem] theorem rnpM_some {k : Nat} : rnpM (some k) = .map k := rfl
@[go_sem] theorem rnp0_undef : AV.rnp0 pos (.undef) = .undef := rfl
@[go_sem] theorem rnp0_int {k : IntKind} {n : Int} : AV.rnp0 pos (.int k n) = .int k n := rfl
@[go_sem] theorem rnp0_bool {b : Bool} : AV.rnp0 pos (.bool b) = .bool b := rfl
@[go_sem] theorem rnp0_str {s : ByteArray} : AV.rnp0 pos (.str s) = .str s := rfl
@[go_sem] theorem rnp0_nilp : AV.rnp0 pos (.nilp) = .nilp := rfl
@[go_sem] theorem rnp0_nils : AV.rnp0 pos (.nils) = .nils := rfl
@[go_sem] theorem rnp0_nili : AV.rnp0 pos (.nili) = .nili := rfl
@[go_sem] theorem rnp0_sl {τ w : Nat} {xs : List AV} : AV.rnp0 pos (.sl τ w xs) = .sl τ w xs := rfl
@[go_sem] theorem rnp0_dptr {τ : Nat} {xs : List AV} : AV.rnp0 pos (.dptr τ xs) = .dptr τ xs := rfl
@[go_sem] theorem rnp0_osl {r w off len : Nat} : AV.rnp0 pos (.osl r w off len) = rnpO (pos r) w off len := rfl
@[go_sem] theorem rnp0_ptr {r w i j : Nat} : AV.rnp0 pos (.ptr r w i j) = rnpP (pos r) w i j := rfl
@[go_sem] theorem rnp0_map {r : Nat} : AV.rnp0 pos (.map r) = rnpM (pos r) := rfl
@[go_sem] theorem rnp1_undef : AV.rnp1 pos (.undef) = .undef := rfl
@[go_sem] theorem rnp1_int {k : IntKind} {n : Int} : AV.rnp1 pos (.int k n) = .int k n := rfl
@[go_sem] theorem rnp1_bool {b : Bool} : AV.rnp1 pos (.bool b) = .bool b := rfl
@[go_sem] theorem rnp1_str {s : ByteArray} : AV.rnp1 pos (.str s) = .str s := rfl
@[go_sem] theorem rnp1_nilp : AV.rnp1 pos (.nilp) = .nilp := rfl
@[go_sem] theorem rnp1_nils : AV.rnp1 pos (.nils) = .nils := rfl
@[go_sem] theorem rnp1_nili : AV.rnp1 pos (.nili) = .nili := rfl
@[go_sem] theorem rnp1_sl {τ w : Nat} {xs : List AV} : AV.rnp1 pos (.sl τ w xs) = .sl τ w xs := rfl
@[go_sem] theorem rnp1_dptr {τ : Nat} {xs : List AV} : AV.rnp1 pos (.dptr τ xs) = .dptr τ xs := rfl
@[go_sem] theorem rnp1_osl {r w off len : Nat} : AV.rnp1 pos (.osl r w off len) = rnpO (pos r) w off len := rfl
@[go_sem] theorem rnp1_ptr {r w i j : Nat} : AV.rnp1 pos (.ptr r w i j) = rnpP (pos r) w i j := rfl
@[go_sem] theorem rnp1_map {r : Nat} : AV.rnp1 pos (.map r) = rnpM (pos r) := rfl
@[go_sem] theorem rnp1_fn {f : FuncId} {cs : List AV} : AV.rnp1 pos (.fn f cs) = .fn f (cs.map (AV.rnp0 pos)) := rfl
@[go_sem] theorem rnp2_undef : AV.rnp2 pos (.undef) = .undef := rfl
@[go_sem] theorem rnp2_int {k : IntKind} {n : Int} : AV.rnp2 pos (.int k n) = .int k n := rfl
@[go_sem] theorem rnp2_bool {b : Bool} : AV.rnp2 pos (.bool b) = .bool b := rfl
@[go_sem] theorem rnp2_str {s : ByteArray} : AV.rnp2 pos (.str s) = .str s := rfl
@[go_sem] theorem rnp2_nilp : AV.rnp2 pos (.nilp) = .nilp := rfl
@[go_sem] theorem rnp2_nils : AV.rnp2 pos (.nils) = .nils := rfl
@[go_sem] theorem rnp2_nili : AV.rnp2 pos (.nili) = .nili := rfl
@[go_sem] theorem rnp2_sl {τ w : Nat} {xs : List AV} : AV.rnp2 pos (.sl τ w xs) = .sl τ w xs := rfl
@[go_sem] theorem rnp2_dptr {τ : Nat} {xs : List AV} : AV.rnp2 pos (.dptr τ xs) = .dptr τ xs := rfl
@[go_sem] theorem rnp2_osl {r w off len : Nat} : AV.rnp2 pos (.osl r w off len) = rnpO (pos r) w off len := rfl
@[go_sem] theorem rnp2_ptr {r w i j : Nat} : AV.rnp2 pos (.ptr r w i j) = rnpP (pos r) w i j := rfl
@[go_sem] theorem rnp2_map {r : Nat} : AV.rnp2 pos (.map r) = rnpM (pos r) := rfl
@[go_sem] theorem rnp2_fn {f : FuncId} {cs : List AV} : AV.rnp2 pos (.fn f cs) = .fn f (cs.map (AV.rnp0 pos)) := rfl
@[go_sem] theorem rnp2_agg {cs : List AV} : AV.rnp2 pos (.agg cs) = .agg (cs.map (AV.rnp1 pos)) := rfl
@[go_sem] theorem rnp_undef : AV.rnp pos (.undef) = .undef := rfl
@[go_sem] theorem rnp_int {k : IntKind} {n : Int} : AV.rnp pos (.int k n) = .int k n := rfl
@[go_sem] theorem rnp_bool {b : Bool} : AV.rnp pos (.bool b) = .bool b := rfl
@[go_sem] theorem rnp_str {s : ByteArray} : AV.rnp pos (.str s) = .str s := rfl
@[go_sem] theorem rnp_nilp : AV.rnp pos (.nilp) = .nilp := rfl
@[go_sem] theorem rnp_nils : AV.rnp pos (.nils) = .nils := rfl
@[go_sem] theorem rnp_nili : AV.rnp pos (.nili) = .nili := rfl
@[go_sem] theorem rnp_sl {τ w : Nat} {xs : List AV} : AV.rnp pos (.sl τ w xs) = .sl τ w xs := rfl
@[go_sem] theorem rnp_dptr {τ : Nat} {xs : List AV} : AV.rnp pos (.dptr τ xs) = .dptr τ xs := rfl
@[go_sem] theorem rnp_osl {r w off len : Nat} : AV.rnp pos (.osl r w off len) = rnpO (pos r) w off len := rfl
@[go_sem] theorem rnp_ptr {r w i j : Nat} : AV.rnp pos (.ptr r w i j) = rnpP (pos r) w i j := rfl
@[go_sem] theorem rnp_map {r : Nat} : AV.rnp pos (.map r) = rnpM (pos r) := rfl
@[go_sem] theorem rnp_fn {f : FuncId} {cs : List AV} : AV.rnp pos (.fn f cs) = .fn f (cs.map (AV.rnp0 pos)) := rfl
@[go_sem] theorem rnp_agg {cs : List AV} : AV.rnp pos (.agg cs) = .agg (cs.map (AV.rnp1 pos)) := rfl
@[go_sem] theorem rnp_tup {cs : List AV} : AV.rnp pos (.tup cs) = .tup (cs.map (AV.rnp2 pos)) := rfl
theorem isD_rnp1 {y : AV} (h : y.isD = true) : y.rnp1 pos = y := by cases y <;> first | rfl | cases h
theorem isD_rnp {y : AV} (h : y.isD = true) : y.rnp pos = y := by cases y <;> first | rfl | cases h
@[go_sem] theorem En.rnp {α : Type} (E : En α) (τ : Nat) (x : α) : AV.rnp pos (E.av τ x) = E.av τ x := by
  rcases E.shape τ x with ⟨h, _⟩ | h
  · exact isD_rnp h
  · rw [h, rnp_agg]
    congr 1
    exact map_id_of fun y hy => isD_rnp1 (E.dat τ x y hy)
end
@[go_sem] theorem rinOf_cons {st : List Root} {r : Nat} {m : List Nat} : rinOf st (r :: m) = (r :: m).map fun q => (st.getD q .gone).rnp (posOf (r :: m)) := rfl
/-- What is x is x', too. -/
def Wk (x x' : AV) : Prop := (∀ (W : World) (D : Nat → Nat → Prop) (β : Nat → Option Nat) (v : Value), Rep W D β v x → Rep W D β v x') ∧ ∀ q, Names x' q → Names x q
theorem Wk.refl (x : AV) : Wk x x := ⟨fun _ _ _ _ h => h, fun _ h => h⟩
theorem Wk.nils (τ w : Nat) : Wk .nils (.sl τ w []) := ⟨fun W D β v h => by rw [rep_nils h]; exact .data _ _ (.sl0 ..), fun q h => by cases h⟩
theorem Wk.agg {cs cs' : List AV} (hl : cs'.length = cs.length) (h : ∀ (i : Nat) (y' : AV), cs'[i]? = some y' → ∃ y, cs[i]? = some y ∧ Wk y y') : Wk (.agg cs) (.agg cs') := by
  refine ⟨fun W D β v hv => ?_, fun q hq => ?_⟩
  · obtain ⟨vs, rfl, hs, hr⟩ := agg_inv hv
    have key : ∀ (i : Nat) (y' : AV), cs'[i]? = some y' → ∃ u, vs[i]? = some u ∧ u.oneCell' = true ∧ Rep W D β u y' := fun i y' hy => by
      obtain ⟨y, h1, h2⟩ := h i y' hy
      obtain ⟨u, u1, u2, u3⟩ := hr i y h1
      exact ⟨u, u1, u2, h2.1 _ _ _ _ u3⟩
    refine .agg vs cs' (fun i => (vs[i]?).getD undef) (hs.trans hl.symm) (fun i y hy => ?_) (fun i y hy => ?_) (fun i y hy => ?_)
    all_goals
      obtain ⟨u, u1, u2, u3⟩ := key i y hy
      simp only [u1, Option.getD_some]
    · exact u2
    · exact u3
  · cases hq with
    | agg _ y _ hy hq =>
      obtain ⟨i, hi, rfl⟩ := List.mem_iff_getElem.1 hy
      obtain ⟨y, h1, h2⟩ := h i _ (List.getElem?_eq_getElem hi)
      exact .agg cs y q (List.mem_of_getElem? h1) (h2.2 q hq)
theorem Wk.tup {cs cs' : List AV} (hl : cs'.length = cs.length) (h : ∀ (i : Nat) (y' : AV), cs'[i]? = some y' → ∃ y, cs[i]? = some y ∧ Wk y y') : Wk (.tup cs) (.tup cs') := by
  refine ⟨fun W D β v hv => ?_, fun q hq => ?_⟩
  · obtain ⟨vs, rfl, hs, hr⟩ := tup_inv hv
    have key : ∀ (i : Nat) (y' : AV), cs'[i]? = some y' → ∃ u, vs[i]? = some u ∧ Rep W D β u y' := fun i y' hy => by
      obtain ⟨y, h1, h2⟩ := h i y' hy
      obtain ⟨u, u1, u3⟩ := hr i y h1
      exact ⟨u, u1, h2.1 _ _ _ _ u3⟩
    refine .tup vs cs' (fun i => (vs[i]?).getD undef) (hs.trans hl.symm) (fun i y hy => ?_) (fun i y hy => ?_)
    all_goals
      obtain ⟨u, u1, u3⟩ := key i y hy
      simp only [u1, Option.getD_some]
    · exact u3
  · cases hq with
    | tup _ y _ hy hq =>
      obtain ⟨i, hi, rfl⟩ := List.mem_iff_getElem.1 hy
      obtain ⟨y, h1, h2⟩ := h i _ (List.getElem?_eq_getElem hi)
      exact .tup cs y q (List.mem_of_getElem? h1) (h2.2 q hq)
theorem SatM.wk {P : Program} {n : Nat} {f : FuncId} {rin rout : List Root} {args args' : List AV} {res res' : AV} (h : SatM P n f rin args' rout res') (hl : args'.length = args.length) (ha : ∀ (i : Nat) (x' : AV), args'[i]? = some x' → ∃ x, args[i]? = some x ∧ Wk x x') (hr : Wk res' res) : SatM P n f rin args rout res := by
  refine ⟨h.1, fun W D β vs h0 h1 h2 h3 h4 h5 h6 => (h.2 W D β vs h0 h1 h2 h3 h4 (h5.trans hl.symm) fun i x' hx => ?_).mono ?_⟩
  · obtain ⟨x, k1, k2⟩ := ha i x' hx
    obtain ⟨v, v1, v2, v3⟩ := h6 i x k1
    exact ⟨v, v1, k2.1 _ _ _ _ v2, fun q hq => v3 q (k2.2 q hq)⟩
  · rintro e W' ⟨v, D', β', he, hM, hR, hB, hv, hn⟩
    exact ⟨v, D', β', he, hM, hR, hB, hr.1 _ _ _ _ hv, fun q hq => hn q (hr.2 q hq)⟩
/-- A slice that may be nil, as one of w cells an element. -/
def toSl (w : Option Nat) (v : AV) : AV :=
  match w, v with
  | some w, .nils => .sl 0 w []
  | _, v => v
theorem toSl_wk (w : Option Nat) (v : AV) : Wk v (toSl w v) := by
  unfold toSl
  split
  · exact Wk.nils ..
  · exact Wk.refl _
def cellw : List (Option Nat) → List AV → List AV
  | _, [] => []
  | [], c :: cs => c :: cs
  | w :: ws, c :: cs => toSl w c :: cellw ws cs
theorem cellw_wk : ∀ (ws : List (Option Nat)) (cs : List AV), (cellw ws cs).length = cs.length ∧ ∀ (i : Nat) (y' : AV), (cellw ws cs)[i]? = some y' → ∃ y, cs[i]? = some y ∧ Wk y y'
  | ws, [] => by cases ws <;> exact ⟨rfl, fun i y' h => by simp [cellw] at h⟩
  | [], c :: cs => ⟨rfl, fun i y' h => ⟨y', h, Wk.refl _⟩⟩
  | w :: ws, c :: cs => by
    obtain ⟨h1, h2⟩ := cellw_wk ws cs
    refine ⟨by simp [cellw, h1], fun i y' h => ?_⟩
    cases i with
    | zero =>
      simp [cellw] at h
      subst h
      exact ⟨c, rfl, toSl_wk w c⟩
    | succ i => exact h2 i y' (by simpa [cellw] using h)
inductive Sh where
  | k
  | c (w : Nat)
  | a (ws : List (Option Nat))
def toSh (s : Sh) (v : AV) : AV :=
  match s with
  | .k => v
  | .c w => toSl (some w) v
  | .a ws => match v with
    | .agg cs => .agg (cellw ws cs)
    | v => v
theorem toSh_wk (s : Sh) (v : AV) : Wk v (toSh s v) := by
  unfold toSh
  split
  · exact Wk.refl _
  · exact toSl_wk _ _
  · rename_i ws
    split
    · rename_i cs
      exact Wk.agg (cellw_wk ws cs).1 (cellw_wk ws cs).2
    · exact Wk.refl _
def argw : List Sh → List AV → List AV
  | _, [] => []
  | [], c :: cs => c :: cs
  | w :: ws, c :: cs => toSh w c :: argw ws cs
theorem argw_wk : ∀ (ws : List Sh) (cs : List AV), (argw ws cs).length = cs.length ∧ ∀ (i : Nat) (y' : AV), (argw ws cs)[i]? = some y' → ∃ y, cs[i]? = some y ∧ Wk y y'
  | ws, [] => by cases ws <;> exact ⟨rfl, fun i y' h => by simp [argw] at h⟩
  | [], c :: cs => ⟨rfl, fun i y' h => ⟨y', h, Wk.refl _⟩⟩
  | w :: ws, c :: cs => by
    obtain ⟨h1, h2⟩ := argw_wk ws cs
    refine ⟨by simp [argw, h1], fun i y' h => ?_⟩
    cases i with
    | zero =>
      simp [argw] at h
      subst h
      exact ⟨c, rfl, toSh_wk w c⟩
    | succ i => exact h2 i y' (by simpa [argw] using h)
/-- Arguments that may be nil. -/
def nilw (sh : List Sh) (s : Fsem) : Fsem := fun n a => s n (argw sh a)
theorem nilw_pure {P : Program} {f : FuncId} {s : Fsem} (sh : List Sh) (h : Pure P f s) : Pure P f (nilw sh s) := fun n a h2 hc =>
  (h n (argw sh a) h2 hc).wk (argw_wk sh a).1 (argw_wk sh a).2 (Wk.refl _)
@[go_sem] theorem nilw_eq {sh : List Sh} {s : Fsem} {n : Nat} {a : List AV} : nilw sh s n a = s n (argw sh a) := rfl
@[go_sem] theorem argw_nil {sh : List Sh} : argw sh [] = [] := by cases sh <;> rfl
@[go_sem] theorem argw_nil' {c : AV} {cs : List AV} : argw [] (c :: cs) = c :: cs := rfl
@[go_sem] theorem argw_cons {w : Sh} {ws : List Sh} {c : AV} {cs : List AV} : argw (w :: ws) (c :: cs) = toSh w c :: argw ws cs := rfl
@[go_sem] theorem toSh_k {v : AV} : toSh .k v = v := rfl
@[go_sem] theorem toSh_c {w : Nat} {v : AV} : toSh (.c w) v = toSl (some w) v := rfl
@[go_sem] theorem toSh_a {ws : List (Option Nat)} {cs : List AV} : toSh (.a ws) (.agg cs) = .agg (cellw ws cs) := rfl
@[go_sem] theorem cellw_nil' {c : AV} {cs : List AV} : cellw [] (c :: cs) = c :: cs := rfl
@[go_sem] theorem cellw_cons {w : Option Nat} {ws : List (Option Nat)} {c : AV} {cs : List AV} : cellw (w :: ws) (c :: cs) = toSl w c :: cellw ws cs := rfl
@[go_sem] theorem toSl_none {v : AV} : toSl none v = v := rfl
@[go_sem] theorem toSl_nils {w : Nat} : toSl (some w) .nils = .sl 0 w [] := rfl
@[go_sem] theorem toSl_sl {w τ w' : Nat} {xs : List AV} : toSl (some w) (.sl τ w' xs) = .sl τ w' xs := rfl
def dspO (o : Option Fsem) (n : Nat) (a : List AV) : OpR :=
  match o with
  | some s => s n a
  | none => .no
/-- The closure is the last argument. -/
def dsp (L : List (Nat × Fsem)) : Fsem := fun n a =>
  match a.getLast? with
  | some (.fn k _) => dspO (tget L k) n a
  | _ => .no
theorem dsp_pure {P : Program} {f : FuncId} {L : List (Nat × Fsem)} (h : ∀ p ∈ L, Pure P f p.2) : Pure P f (dsp L) := by
  intro n a h2 hc
  have key : ∀ {L : List (Nat × Fsem)} {k : Nat} {s : Fsem}, tget L k = some s → ∃ p ∈ L, p.2 = s := by
    intro L k s
    induction L with
    | nil => intro h; cases h
    | cons p L ih =>
      obtain ⟨g, s0⟩ := p
      intro h
      rw [tget] at h
      cases hb : Nat.beq g k
      · rw [hb] at h
        obtain ⟨p, hp, h2⟩ := ih h
        exact ⟨p, List.mem_cons_of_mem _ hp, h2⟩
      · rw [hb] at h
        cases h
        exact ⟨_, List.mem_cons_self, rfl⟩
  unfold dsp at hc ⊢
  split at hc
  · rename_i k c hk
    cases ht : tget L k with
    | none => rw [ht] at hc; exact hc.elim
    | some s =>
      obtain ⟨p, hp, rfl⟩ := key ht
      rw [ht] at hc
      exact h p hp n a h2 hc
  · exact hc.elim
@[go_sem] theorem dsp_two {L : List (Nat × Fsem)} {n : Nat} {x : AV} {k : Nat} {c : List AV} : dsp L n [x, .fn k c] = dspO (tget L k) n [x, .fn k c] := rfl
@[go_sem] theorem dsp_three {L : List (Nat × Fsem)} {n : Nat} {x y : AV} {k : Nat} {c : List AV} : dsp L n [x, y, .fn k c] = dspO (tget L k) n [x, y, .fn k c] := rfl
@[go_sem] theorem dspO_some {s : Fsem} {n : Nat} {a : List AV} : dspO (some s) n a = s n a := rfl
def kvs (l : List Int) : List (AV × AV) := l.map fun k => (.int .i64 k, .bool true)
def ins (l : List Int) (k : Int) : List Int := if k ∈ l then l else l ++ [k]
@[go_sem] theorem kvFind_kvs {k : Int} : ∀ {l : List Int}, kvFind (kvs l) (.int .i64 k) = some (if k ∈ l then some (.bool true) else none)
  | [] => rfl
  | a :: l => by
    have ih := kvFind_kvs (k := k) (l := l)
    simp only [kvs, List.map_cons] at ih ⊢
    simp only [kvFind, cellEq, if_true, ih]
    by_cases h : k = a
    · subst h; simp
    · simp [h]
@[go_sem] theorem kvSet_kvs {k : Int} : ∀ {l : List Int}, kvSet (kvs l) (.int .i64 k) (.bool true) = some (kvs (ins l k))
  | [] => rfl
  | a :: l => by
    have ih := kvSet_kvs (k := k) (l := l)
    simp only [kvs, List.map_cons] at ih ⊢
    simp only [kvSet, cellEq, if_true, ih]
    by_cases h : k = a
    · subst h; simp [ins]
    · by_cases h' : k ∈ l <;> simp [ins, h, h']
@[go_sem] theorem kvs_len {l : List Int} : (kvs l).length = l.length := by simp [kvs]
theorem mem_ins {l : List Int} {k x : Int} : x ∈ ins l k ↔ x ∈ l ∨ x = k := by
  unfold ins
  split
  · rename_i h
    constructor
    · exact .inl
    · rintro (h1 | rfl)
      · exact h1
      · exact h
  · simp
def zeroHas (P : Program) (t : Nat) : Bool := ((P.info? t).bind (·.zero)).isSome
def keyOkR (ty : Ty) (k : AV) : Bool :=
  match ty, k with
  | .int _, .int _ _ => true
  | .bool, .bool _ => true
  | .str, .str _ => true
  | _, _ => false
@[go_sem] theorem keyOk_eq {P : Program} {t : Nat} {k : AV} : keyOk P t k = keyOkR (tyOf P t) k := rfl
@[go_sem] theorem keyOkR_int {k k' : IntKind} {n : Int} : keyOkR (.int k) (.int k' n) = true := rfl
@[go_sem] theorem keyOkR_bool {b : Bool} : keyOkR .bool (.bool b) = true := rfl
@[go_sem] theorem keyOkR_str {s : ByteArray} : keyOkR .str (.str s) = true := rfl
def lkV (ok : Bool) (o : Option AV) (z : AV) : AV := bif ok then .tup [o.getD z, .bool o.isSome] else o.getD z
def lkS (P : Program) (kt et : Nat) (k : AV) (ok : Bool) (o : Option (Option AV)) : OpR :=
  match o with
  | some o => ⟨keyOk P kt k = true ∧ zeroHas P et = true, lkV ok o (zeroAV P et)⟩
  | none => .no
def lkR (P : Program) (kt et : Nat) (k : AV) (ok : Bool) (R : Option Root) : OpR :=
  match R with
  | some (.mp kv) => lkS P kt et k ok (kvFind kv k)
  | _ => .no
def lkT (P : Program) (st : List Root) (ty : Ty) (x k : AV) (ok : Bool) : OpR :=
  match ty, x with
  | .mp kt et, .map r => lkR P kt et k ok (st[r]?)
  | _, _ => .no
@[go_sem] theorem vLookup_eq {P : Program} {st : List Root} {t : Nat} {x k : AV} {ok : Bool} : vLookup P st t x k ok = lkT P st (tyOf P t) x k ok := by
  unfold vLookup lkT lkR lkS lkV zeroHas
  cases tyOf P t <;> cases x <;> try rfl
  all_goals
    rename_i r
    simp only
    split
    · rename_i kv h
      cases kvFind kv k <;> rfl
    · rfl
@[go_sem] theorem lkT_mp {P : Program} {st : List Root} {kt et r : Nat} {k : AV} {ok : Bool} : lkT P st (.mp kt et) (.map r) k ok = lkR P kt et k ok (st[r]?) := rfl
@[go_sem] theorem lkR_mp {P : Program} {kt et : Nat} {k : AV} {ok : Bool} {kv : List (AV × AV)} : lkR P kt et k ok (some (.mp kv)) = lkS P kt et k ok (kvFind kv k) := rfl
@[go_sem] theorem lkS_some {P : Program} {kt et : Nat} {k : AV} {ok : Bool} {o : Option AV} : lkS P kt et k ok (some o) = ⟨keyOk P kt k = true ∧ zeroHas P et = true, lkV ok o (zeroAV P et)⟩ := rfl
@[go_sem] theorem lkV_set {c : Prop} [Decidable c] : lkV false (if c then some (.bool true) else none) (.bool false) = .bool (decide c) := by
  by_cases h : c <;> simp [lkV, h]
@[go_sem] theorem kvs_empty : kvs [] = [] := rfl
@[go_sem] theorem cs_list {α : Type} {E : En α} {τ : Nat} {l : List α} : E.list.cs τ l = [.sl τ E.w (l.map (E.av τ))] := rfl
@[go_sem] theorem en_int_fun {k : IntKind} {τ : Nat} : (En.int k).av τ = AV.int k := rfl
@[go_sem] theorem en_bool_fun {τ : Nat} : En.bool.av τ = AV.bool := rfl
@[go_sem] theorem en_str_fun {τ : Nat} : En.str.av τ = AV.str := rfl
section
variable {α β γ δ ε ζ : Type} {P : Program} {f : FuncId}
theorem cons_inj {x y : AV} {l m : List AV} (h : x :: l = y :: m) : x = y ∧ l = m := by cases h; exact ⟨rfl, rfl⟩
noncomputable def sem1 (E : En α) (pre : α → Prop) (res : Nat → α → AV) : Fsem := semOf (fun i : Nat × α => [E.av i.1 i.2]) (fun i => pre i.2) (fun n i => res n i.2)
theorem sem1_pure {E : En α} {pre : α → Prop} {res : Nat → α → AV} (h : ∀ τ x n, 2 ≤ n → pre x → SatM P n f [] [E.av τ x] [] (res n x)) : Pure P f (sem1 E pre res) := semOf_pure fun ⟨τ, x⟩ n h2 hp => h τ x n h2 hp
theorem sem1_eq {E : En α} {pre : α → Prop} {res : Nat → α → AV} {n τ : Nat} {x : α} : sem1 E pre res n [E.av τ x] = ⟨pre x, res n x⟩ :=
  semOf_eq (τ, x) rfl fun ⟨τ', x'⟩ h => by
    obtain ⟨h1, _⟩ := cons_inj h
    have := E.inj h1
    subst this
    exact ⟨Iff.rfl, rfl⟩
noncomputable def sem2 (E : En α) (F : En β) (pre : α → β → Prop) (res : Nat → α → β → AV) : Fsem := semOf (fun i : (Nat × Nat) × α × β => [E.av i.1.1 i.2.1, F.av i.1.2 i.2.2]) (fun i => pre i.2.1 i.2.2) (fun n i => res n i.2.1 i.2.2)
theorem sem2_pure {E : En α} {F : En β} {pre : α → β → Prop} {res : Nat → α → β → AV} (h : ∀ τ τ' x y n, 2 ≤ n → pre x y → SatM P n f [] [E.av τ x, F.av τ' y] [] (res n x y)) : Pure P f (sem2 E F pre res) := semOf_pure fun ⟨⟨τ, τ'⟩, x, y⟩ n h2 hp => h τ τ' x y n h2 hp
theorem sem2_eq {E : En α} {F : En β} {pre : α → β → Prop} {res : Nat → α → β → AV} {n τ τ' : Nat} {x : α} {y : β} : sem2 E F pre res n [E.av τ x, F.av τ' y] = ⟨pre x y, res n x y⟩ :=
  semOf_eq ((τ, τ'), x, y) rfl fun ⟨⟨t, t'⟩, x', y'⟩ h => by
    obtain ⟨h1, h⟩ := cons_inj h
    obtain ⟨h2, _⟩ := cons_inj h
    have := E.inj h1
    have := F.inj h2
    subst_vars
    exact ⟨Iff.rfl, rfl⟩
noncomputable def sem3 (E : En α) (F : En β) (G : En γ) (pre : α → β → γ → Prop) (res : Nat → α → β → γ → AV) : Fsem := semOf (fun i : (Nat × Nat × Nat) × α × β × γ => [E.av i.1.1 i.2.1, F.av i.1.2.1 i.2.2.1, G.av i.1.2.2 i.2.2.2]) (fun i => pre i.2.1 i.2.2.1 i.2.2.2) (fun n i => res n i.2.1 i.2.2.1 i.2.2.2)
theorem sem3_pure {E : En α} {F : En β} {G : En γ} {pre : α → β → γ → Prop} {res : Nat → α → β → γ → AV} (h : ∀ τ τ' τ'' x y z n, 2 ≤ n → pre x y z → SatM P n f [] [E.av τ x, F.av τ' y, G.av τ'' z] [] (res n x y z)) : Pure P f (sem3 E F G pre res) := semOf_pure fun ⟨⟨τ, τ', τ''⟩, x, y, z⟩ n h2 hp => h τ τ' τ'' x y z n h2 hp
theorem sem3_eq {E : En α} {F : En β} {G : En γ} {pre : α → β → γ → Prop} {res : Nat → α → β → γ → AV} {n τ τ' τ'' : Nat} {x : α} {y : β} {z : γ} : sem3 E F G pre res n [E.av τ x, F.av τ' y, G.av τ'' z] = ⟨pre x y z, res n x y z⟩ :=
  semOf_eq ((τ, τ', τ''), x, y, z) rfl fun ⟨⟨t, t', t''⟩, x', y', z'⟩ h => by
    obtain ⟨h1, h⟩ := cons_inj h
    obtain ⟨h2, h⟩ := cons_inj h
    obtain ⟨h3, _⟩ := cons_inj h
    have := E.inj h1
    have := F.inj h2
    have := G.inj h3
    subst_vars
    exact ⟨Iff.rfl, rfl⟩
noncomputable def sem4 (E : En α) (F : En β) (G : En γ) (H : En δ) (pre : α → β → γ → δ → Prop) (res : Nat → α → β → γ → δ → AV) : Fsem := semOf (fun i : (Nat × Nat × Nat × Nat) × α × β × γ × δ => [E.av i.1.1 i.2.1, F.av i.1.2.1 i.2.2.1, G.av i.1.2.2.1 i.2.2.2.1, H.av i.1.2.2.2 i.2.2.2.2]) (fun i => pre i.2.1 i.2.2.1 i.2.2.2.1 i.2.2.2.2) (fun n i => res n i.2.1 i.2.2.1 i.2.2.2.1 i.2.2.2.2)
theorem sem4_pure {E : En α} {F : En β} {G : En γ} {H : En δ} {pre : α → β → γ → δ → Prop} {res : Nat → α → β → γ → δ → AV} (h : ∀ τ τ' τ'' τ3 x y z u n, 2 ≤ n → pre x y z u → SatM P n f [] [E.av τ x, F.av τ' y, G.av τ'' z, H.av τ3 u] [] (res n x y z u)) : Pure P f (sem4 E F G H pre res) := semOf_pure fun ⟨⟨τ, τ', τ'', τ3⟩, x, y, z, u⟩ n h2 hp => h τ τ' τ'' τ3 x y z u n h2 hp
theorem sem4_eq {E : En α} {F : En β} {G : En γ} {H : En δ} {pre : α → β → γ → δ → Prop} {res : Nat → α → β → γ → δ → AV} {n τ τ' τ'' τ3 : Nat} {x : α} {y : β} {z : γ} {u : δ} : sem4 E F G H pre res n [E.av τ x, F.av τ' y, G.av τ'' z, H.av τ3 u] = ⟨pre x y z u, res n x y z u⟩ :=
  semOf_eq ((τ, τ', τ'', τ3), x, y, z, u) rfl fun ⟨⟨t, t', t'', t3⟩, x', y', z', u'⟩ h => by
    obtain ⟨h1, h⟩ := cons_inj h
    obtain ⟨h2, h⟩ := cons_inj h
    obtain ⟨h3, h⟩ := cons_inj h
    obtain ⟨h4, _⟩ := cons_inj h
    have := E.inj h1
    have := F.inj h2
    have := G.inj h3
    have := H.inj h4
    subst_vars
    exact ⟨Iff.rfl, rfl⟩
/-- The region of the first argument is seen in it. -/
def Seen {α : Type} (E : En α) : Prop := ∀ τ τ' x y, E.av τ x = E.av τ' y → τ = τ'
noncomputable def semT1 (E : En α) (pre : Nat → α → Prop) (res : Nat → Nat → α → AV) : Fsem := semOf (fun i : (Nat) × α => [E.av i.1 i.2]) (fun i => pre i.1 i.2) (fun n i => res n i.1 i.2)
theorem semT1_pure {E : En α} {pre : Nat → α → Prop} {res : Nat → Nat → α → AV} (h : ∀ τ x n, 2 ≤ n → pre τ x → SatM P n f [] [E.av τ x] [] (res n τ x)) : Pure P f (semT1 E pre res) := semOf_pure fun ⟨τ, x⟩ n h2 hp => h τ x n h2 hp
theorem semT1_eq {E : En α} {pre : Nat → α → Prop} {res : Nat → Nat → α → AV} {n τ : Nat} {x : α} (hv : Seen E) : semT1 E pre res n [E.av τ x] = ⟨pre τ x, res n τ x⟩ :=
  semOf_eq (τ, x) rfl fun ⟨t0, x0⟩ h => by
    obtain ⟨h1, _⟩ := cons_inj h
    have := hv _ _ _ _ h1
    have := E.inj h1
    subst_vars
    exact ⟨Iff.rfl, rfl⟩
noncomputable def semT2 (E : En α) (F : En β) (pre : Nat → α → β → Prop) (res : Nat → Nat → α → β → AV) : Fsem := semOf (fun i : (Nat × Nat) × α × β => [E.av i.1.1 i.2.1, F.av i.1.2 i.2.2]) (fun i => pre i.1.1 i.2.1 i.2.2) (fun n i => res n i.1.1 i.2.1 i.2.2)
theorem semT2_pure {E : En α} {F : En β} {pre : Nat → α → β → Prop} {res : Nat → Nat → α → β → AV} (h : ∀ τ τ' x y n, 2 ≤ n → pre τ x y → SatM P n f [] [E.av τ x, F.av τ' y] [] (res n τ x y)) : Pure P f (semT2 E F pre res) := semOf_pure fun ⟨⟨τ, τ'⟩, x, y⟩ n h2 hp => h τ τ' x y n h2 hp
theorem semT2_eq {E : En α} {F : En β} {pre : Nat → α → β → Prop} {res : Nat → Nat → α → β → AV} {n τ τ' : Nat} {x : α} {y : β} (hv : Seen E) : semT2 E F pre res n [E.av τ x, F.av τ' y] = ⟨pre τ x y, res n τ x y⟩ :=
  semOf_eq ((τ, τ'), x, y) rfl fun ⟨⟨t0, t1⟩, x0, x1⟩ h => by
    obtain ⟨h1, h⟩ := cons_inj h
    obtain ⟨h2, _⟩ := cons_inj h
    have := hv _ _ _ _ h1
    have := E.inj h1
    have := F.inj h2
    subst_vars
    exact ⟨Iff.rfl, rfl⟩
noncomputable def semT3 (E : En α) (F : En β) (G : En γ) (pre : Nat → α → β → γ → Prop) (res : Nat → Nat → α → β → γ → AV) : Fsem := semOf (fun i : (Nat × Nat × Nat) × α × β × γ => [E.av i.1.1 i.2.1, F.av i.1.2.1 i.2.2.1, G.av i.1.2.2 i.2.2.2]) (fun i => pre i.1.1 i.2.1 i.2.2.1 i.2.2.2) (fun n i => res n i.1.1 i.2.1 i.2.2.1 i.2.2.2)
theorem semT3_pure {E : En α} {F : En β} {G : En γ} {pre : Nat → α → β → γ → Prop} {res : Nat → Nat → α → β → γ → AV} (h : ∀ τ τ' τ'' x y z n, 2 ≤ n → pre τ x y z → SatM P n f [] [E.av τ x, F.av τ' y, G.av τ'' z] [] (res n τ x y z)) : Pure P f (semT3 E F G pre res) := semOf_pure fun ⟨⟨τ, τ', τ''⟩, x, y, z⟩ n h2 hp => h τ τ' τ'' x y z n h2 hp
theorem semT3_eq {E : En α} {F : En β} {G : En γ} {pre : Nat → α → β → γ → Prop} {res : Nat → Nat → α → β → γ → AV} {n τ τ' τ'' : Nat} {x : α} {y : β} {z : γ} (hv : Seen E) : semT3 E F G pre res n [E.av τ x, F.av τ' y, G.av τ'' z] = ⟨pre τ x y z, res n τ x y z⟩ :=
  semOf_eq ((τ, τ', τ''), x, y, z) rfl fun ⟨⟨t0, t1, t2⟩, x0, x1, x2⟩ h => by
    obtain ⟨h1, h⟩ := cons_inj h
    obtain ⟨h2, h⟩ := cons_inj h
    obtain ⟨h3, _⟩ := cons_inj h
    have := hv _ _ _ _ h1
    have := E.inj h1
    have := F.inj h2
    have := G.inj h3
    subst_vars
    exact ⟨Iff.rfl, rfl⟩
noncomputable def semT4 (E : En α) (F : En β) (G : En γ) (H : En δ) (pre : Nat → α → β → γ → δ → Prop) (res : Nat → Nat → α → β → γ → δ → AV) : Fsem := semOf (fun i : (Nat × Nat × Nat × Nat) × α × β × γ × δ => [E.av i.1.1 i.2.1, F.av i.1.2.1 i.2.2.1, G.av i.1.2.2.1 i.2.2.2.1, H.av i.1.2.2.2 i.2.2.2.2]) (fun i => pre i.1.1 i.2.1 i.2.2.1 i.2.2.2.1 i.2.2.2.2) (fun n i => res n i.1.1 i.2.1 i.2.2.1 i.2.2.2.1 i.2.2.2.2)
theorem semT4_pure {E : En α} {F : En β} {G : En γ} {H : En δ} {pre : Nat → α → β → γ → δ → Prop} {res : Nat → Nat → α → β → γ → δ → AV} (h : ∀ τ τ' τ'' τ3 x y z u n, 2 ≤ n → pre τ x y z u → SatM P n f [] [E.av τ x, F.av τ' y, G.av τ'' z, H.av τ3 u] [] (res n τ x y z u)) : Pure P f (semT4 E F G H pre res) := semOf_pure fun ⟨⟨τ, τ', τ'', τ3⟩, x, y, z, u⟩ n h2 hp => h τ τ' τ'' τ3 x y z u n h2 hp
theorem semT4_eq {E : En α} {F : En β} {G : En γ} {H : En δ} {pre : Nat → α → β → γ → δ → Prop} {res : Nat → Nat → α → β → γ → δ → AV} {n τ τ' τ'' τ3 : Nat} {x : α} {y : β} {z : γ} {u : δ} (hv : Seen E) : semT4 E F G H pre res n [E.av τ x, F.av τ' y, G.av τ'' z, H.av τ3 u] = ⟨pre τ x y z u, res n τ x y z u⟩ :=
  semOf_eq ((τ, τ', τ'', τ3), x, y, z, u) rfl fun ⟨⟨t0, t1, t2, t3⟩, x0, x1, x2, x3⟩ h => by
    obtain ⟨h1, h⟩ := cons_inj h
    obtain ⟨h2, h⟩ := cons_inj h
    obtain ⟨h3, h⟩ := cons_inj h
    obtain ⟨h4, _⟩ := cons_inj h
    have := hv _ _ _ _ h1
    have := E.inj h1
    have := F.inj h2
    have := G.inj h3
    have := H.inj h4
    subst_vars
    exact ⟨Iff.rfl, rfl⟩
noncomputable def semT5 (E : En α) (F : En β) (G : En γ) (H : En δ) (J : En ε) (pre : Nat → α → β → γ → δ → ε → Prop) (res : Nat → Nat → α → β → γ → δ → ε → AV) : Fsem := semOf (fun i : (Nat × Nat × Nat × Nat × Nat) × α × β × γ × δ × ε => [E.av i.1.1 i.2.1, F.av i.1.2.1 i.2.2.1, G.av i.1.2.2.1 i.2.2.2.1, H.av i.1.2.2.2.1 i.2.2.2.2.1, J.av i.1.2.2.2.2 i.2.2.2.2.2]) (fun i => pre i.1.1 i.2.1 i.2.2.1 i.2.2.2.1 i.2.2.2.2.1 i.2.2.2.2.2) (fun n i => res n i.1.1 i.2.1 i.2.2.1 i.2.2.2.1 i.2.2.2.2.1 i.2.2.2.2.2)
theorem semT5_pure {E : En α} {F : En β} {G : En γ} {H : En δ} {J : En ε} {pre : Nat → α → β → γ → δ → ε → Prop} {res : Nat → Nat → α → β → γ → δ → ε → AV} (h : ∀ τ τ' τ'' τ3 τ4 x y z u v n, 2 ≤ n → pre τ x y z u v → SatM P n f [] [E.av τ x, F.av τ' y, G.av τ'' z, H.av τ3 u, J.av τ4 v] [] (res n τ x y z u v)) : Pure P f (semT5 E F G H J pre res) := semOf_pure fun ⟨⟨τ, τ', τ'', τ3, τ4⟩, x, y, z, u, v⟩ n h2 hp => h τ τ' τ'' τ3 τ4 x y z u v n h2 hp
theorem semT5_eq {E : En α} {F : En β} {G : En γ} {H : En δ} {J : En ε} {pre : Nat → α → β → γ → δ → ε → Prop} {res : Nat → Nat → α → β → γ → δ → ε → AV} {n τ τ' τ'' τ3 τ4 : Nat} {x : α} {y : β} {z : γ} {u : δ} {v : ε} (hv : Seen E) : semT5 E F G H J pre res n [E.av τ x, F.av τ' y, G.av τ'' z, H.av τ3 u, J.av τ4 v] = ⟨pre τ x y z u v, res n τ x y z u v⟩ :=
  semOf_eq ((τ, τ', τ'', τ3, τ4), x, y, z, u, v) rfl fun ⟨⟨t0, t1, t2, t3, t4⟩, x0, x1, x2, x3, x4⟩ h => by
    obtain ⟨h1, h⟩ := cons_inj h
    obtain ⟨h2, h⟩ := cons_inj h
    obtain ⟨h3, h⟩ := cons_inj h
    obtain ⟨h4, h⟩ := cons_inj h
    obtain ⟨h5, _⟩ := cons_inj h
    have := hv _ _ _ _ h1
    have := E.inj h1
    have := F.inj h2
    have := G.inj h3
    have := H.inj h4
    have := J.inj h5
    subst_vars
    exact ⟨Iff.rfl, rfl⟩
noncomputable def semT6 (E : En α) (F : En β) (G : En γ) (H : En δ) (J : En ε) (K : En ζ) (pre : Nat → α → β → γ → δ → ε → ζ → Prop) (res : Nat → Nat → α → β → γ → δ → ε → ζ → AV) : Fsem := semOf (fun i : (Nat × Nat × Nat × Nat × Nat × Nat) × α × β × γ × δ × ε × ζ => [E.av i.1.1 i.2.1, F.av i.1.2.1 i.2.2.1, G.av i.1.2.2.1 i.2.2.2.1, H.av i.1.2.2.2.1 i.2.2.2.2.1, J.av i.1.2.2.2.2.1 i.2.2.2.2.2.1, K.av i.1.2.2.2.2.2 i.2.2.2.2.2.2]) (fun i => pre i.1.1 i.2.1 i.2.2.1 i.2.2.2.1 i.2.2.2.2.1 i.2.2.2.2.2.1 i.2.2.2.2.2.2) (fun n i => res n i.1.1 i.2.1 i.2.2.1 i.2.2.2.1 i.2.2.2.2.1 i.2.2.2.2.2.1 i.2.2.2.2.2.2)
theorem semT6_pure {E : En α} {F : En β} {G : En γ} {H : En δ} {J : En ε} {K : En ζ} {pre : Nat → α → β → γ → δ → ε → ζ → Prop} {res : Nat → Nat → α → β → γ → δ → ε → ζ → AV} (h : ∀ τ τ' τ'' τ3 τ4 τ5 x y z u v w n, 2 ≤ n → pre τ x y z u v w → SatM P n f [] [E.av τ x, F.av τ' y, G.av τ'' z, H.av τ3 u, J.av τ4 v, K.av τ5 w] [] (res n τ x y z u v w)) : Pure P f (semT6 E F G H J K pre res) := semOf_pure fun ⟨⟨τ, τ', τ'', τ3, τ4, τ5⟩, x, y, z, u, v, w⟩ n h2 hp => h τ τ' τ'' τ3 τ4 τ5 x y z u v w n h2 hp
theorem semT6_eq {E : En α} {F : En β} {G : En γ} {H : En δ} {J : En ε} {K : En ζ} {pre : Nat → α → β → γ → δ → ε → ζ → Prop} {res : Nat → Nat → α → β → γ → δ → ε → ζ → AV} {n τ τ' τ'' τ3 τ4 τ5 : Nat} {x : α} {y : β} {z : γ} {u : δ} {v : ε} {w : ζ} (hv : Seen E) : semT6 E F G H J K pre res n [E.av τ x, F.av τ' y, G.av τ'' z, H.av τ3 u, J.av τ4 v, K.av τ5 w] = ⟨pre τ x y z u v w, res n τ x y z u v w⟩ :=
  semOf_eq ((τ, τ', τ'', τ3, τ4, τ5), x, y, z, u, v, w) rfl fun ⟨⟨t0, t1, t2, t3, t4, t5⟩, x0, x1, x2, x3, x4, x5⟩ h => by
    obtain ⟨h1, h⟩ := cons_inj h
    obtain ⟨h2, h⟩ := cons_inj h
    obtain ⟨h3, h⟩ := cons_inj h
    obtain ⟨h4, h⟩ := cons_inj h
    obtain ⟨h5, h⟩ := cons_inj h
    obtain ⟨h6, _⟩ := cons_inj h
    have := hv _ _ _ _ h1
    have := E.inj h1
    have := F.inj h2
    have := G.inj h3
    have := H.inj h4
    have := J.inj h5
    have := K.inj h6
    subst_vars
    exact ⟨Iff.rfl, rfl⟩
end
end Go.Ve
namespace Go.Ve
open Go.RowKit
set_option linter.unusedVariables false
set_option linter.unusedSimpArgs false
set_option maxRecDepth 10000
def idxF {α : Type} (p : α → Bool) : List α → Nat → Int
  | [], _ => -1
  | x :: l, i => if p x = true then (i : Int) else idxF p l (i + 1)
def idx {α : Type} (p : α → Bool) (l : List α) : Int := idxF p l 0
theorem idxF_spec {α : Type} (p : α → Bool) : ∀ (l : List α) (i : Nat), (idxF p l i = -1 ∧ l.find? p = none) ∨ ∃ a x b, l = a ++ x :: b ∧ p x = true ∧ idxF p l i = (i + a.length : Nat) ∧ l.find? p = some x
  | [], i => .inl ⟨rfl, rfl⟩
  | x :: l, i => by
    unfold idxF
    cases hp : p x
    · rcases idxF_spec p l (i + 1) with ⟨h1, h2⟩ | ⟨a, y, b, rfl, h2, h3, h4⟩
      · exact .inl ⟨by simpa using h1, by simp [hp, h2]⟩
      · refine .inr ⟨x :: a, y, b, rfl, h2, ?_, by rw [List.find?_cons, hp]; exact h4⟩
        simp only [Bool.false_eq_true, if_false, h3, List.length_cons]
        omega
    · exact .inr ⟨[], x, l, rfl, hp, by simp, by simp [hp]⟩
theorem idx_spec {α : Type} (p : α → Bool) (l : List α) : (idx p l = -1 ∧ l.find? p = none) ∨ ∃ a x b, l = a ++ x :: b ∧ p x = true ∧ idx p l = a.length ∧ l.find? p = some x := by
  have := idxF_spec p l 0
  simpa [idx] using this
theorem idx_nonneg {α : Type} (p : α → Bool) (l : List α) : 0 ≤ idx p l ↔ l.any p = true := by
  rcases idx_spec p l with ⟨h1, h2⟩ | ⟨a, x, b, rfl, h2, h3, h4⟩
  · rw [h1]
    rw [List.find?_eq_none] at h2
    constructor
    · intro h; omega
    · intro h
      obtain ⟨x, hx, hp⟩ := List.any_eq_true.1 h
      exact absurd hp (h2 x hx)
  · rw [h3]
    simp [h2]
def idxC (t e : Nat) : SCode := (.seq (.reg [⟨(some 4), .assign (.const (.int .i64 0)), none⟩])
(.seq (.seq (.reg [⟨(some 6), .move (.tmp 0), none⟩,
     ⟨(some 7), .call ⟨(.builtin .len), #[(.tmp 6)], #[t]⟩, none⟩,
     ⟨(some 8), .move (.const (.int .i64 0)), none⟩])
  (.block 0 (.loop (.seq (.reg [⟨(some 9), .binOp .lss 3 (.tmp 8) (.tmp 7) 3, none⟩])
     (.seq (.cond (.tmp 9) .skip
       (.exit 0))
      (.seq (.block 1 (.seq (.reg [⟨(some 10), .move (.tmp 8), none⟩,
            ⟨(some 5), .assign (.tmp 10), none⟩])
         (.seq (.reg [⟨(some 11), .move (.tmp 1), none⟩,
             ⟨(some 12), .move (.tmp 0), none⟩,
             ⟨(some 13), .move (.tmp 5), none⟩,
             ⟨(some 14), .indexAddr t (.tmp 12) (.tmp 13), none⟩,
             ⟨(some 15), .load e (.tmp 14), none⟩,
             ⟨(some 16), .call ⟨(.value (.tmp 11)), #[(.tmp 15)], #[e]⟩, none⟩])
          (.cond (.tmp 16) (.seq (.reg [⟨(some 17), .move (.tmp 5), none⟩,
               ⟨(some 4), .assign (.tmp 17), none⟩])
            .ret)
           .skip))))
       (.reg [⟨(some 18), .binOp .add 3 (.tmp 8) (.const (.int .i64 1)) 3, none⟩,
          ⟨(some 8), .move (.tmp 18), none⟩])))))))
 (.seq (.reg [⟨(some 4), .assign (.const (.int .i64 (-1))), none⟩])
  .ret)))
def cfC (t ft k : Nat) : SCode := (.seq (.reg [⟨(some 4), .assign (.const (.bool false)), none⟩])
(.seq (.reg [⟨(some 5), .move (.tmp 0), none⟩,
    ⟨(some 6), .move (.tmp 1), none⟩,
    ⟨(some 7), .call ⟨(.value (.func k)), #[(.tmp 5), (.tmp 6)], #[t, ft]⟩, none⟩,
    ⟨(some 8), .binOp .geq 3 (.tmp 7) (.const (.int .i64 0)) 3, none⟩,
    ⟨(some 4), .assign (.tmp 8), none⟩])
 .ret))
theorem isD_cv {st : List Root} {pos : Nat → Option Nat} {y : AV} (h : y.isD = true) : cv st pos y = (True, y) := by
  have := isD_cv1 (st := st) (pos := pos) h
  cases y <;> first | exact this | cases h
theorem cv_caps {st : List Root} {pos : Nat → Option Nat} {caps : List AV} (h : ∀ c ∈ caps, c.isD = true) : caps.map (fun x => (cv st pos x).2) = caps := map_id_of fun y hy => by rw [isD_cv (h y hy)]
theorem cv_capsT {st : List Root} {pos : Nat → Option Nat} {caps : List AV} (h : ∀ c ∈ caps, c.isD = true) : (∀ x ∈ caps, (cv st pos x).1) = True := eq_true fun y hy => by rw [isD_cv (h y hy)]; trivial
theorem cv0_caps {st : List Root} {pos : Nat → Option Nat} {caps : List AV} (h : ∀ c ∈ caps, c.isD = true) : caps.map (fun x => (cv0 st pos x).2) = caps := map_id_of fun y hy => by rw [isD_cv0 (h y hy)]
theorem cv0_capsT {st : List Root} {pos : Nat → Option Nat} {caps : List AV} (h : ∀ c ∈ caps, c.isD = true) : (∀ x ∈ caps, (cv0 st pos x).1) = True := eq_true fun y hy => by rw [isD_cv0 (h y hy)]; trivial
section
variable {P : Program} {α : Type} {E : En α} {f : FuncId} {fn : Func} {nt n : Nat}
theorem indexFunc_ok {t e fid : Nat} {caps : List AV} {gf : Fsem} {p : α → Bool} (hm : P.follows .mixedOrders = true) (hf : P.funcs[f]? = some fn) (hsl : slimF fn = some (idxC t e, [.t 4], nt)) (ho : okF [(fid, gf)] fn = true) (hnt : 2 ≤ nt)
    (ht : tyOf P t = .sl e) (hE : FitE P e E) (hfe : Pure P fid gf) (hc : ∀ c ∈ caps, c.isD = true) (hs : ∀ n τ x, gf n (E.av τ x :: caps) = ⟨True, .bool (p x)⟩) (h2 : 2 ≤ n) {τ : Nat} {l : List α} :
    SatM P n f [] [.sl τ E.w (l.map (E.av τ)), .fn fid caps] [] (.int .i64 (idx p l)) := by
  have hT : Table P [(fid, gf)] := .cons hfe .nil
  refine SatP.of_body hT hm hf hsl ho h2 (by simpa using hnt) ?_
  obtain ⟨hE0, hE1, hE2⟩ := hE
  simp (config := {contextual := true}) only [idxC, go_sem, ht, ↓reduceIte, Nat.reduceEqDiff, Nat.reduceAdd, true_and, and_true, List.length_map]
  intro hL
  refine VW_listK hT h2 hm l [0, 1, 7] (fun pre post (_ : Unit) => [(8, .int .i64 pre.length)]) (fun pre post _ => idxF p post pre.length = idx p l) () rfl ?_ ?_ ?_
  · simp [SubI, go_sem]
  · intro b hR
    have hR' : -1 = idx p l := hR
    simp [go_sem, ← hR']
  · rintro pre x post b rfl hlen hR
    have hw : IntKind.i64.wrap ((pre.length : Int) + 1) = (pre.length : Int) + 1 := wrap_next hL (by simp)
    have h3 : (0 : Int) ≤ pre.length := by omega
    have h4 : (pre.length : Int) < (pre.length : Int) + ((post.length : Int) + 1) := by omega
    have h5 : ¬ (pre.length : Int) + ((post.length : Int) + 1) ≤ (pre.length : Int) := by omega
    unfold idxF at hR
    cases hp : p x
    · rw [hp] at hR
      simp at hR
      simp (config := {contextual := true}) [go_sem, ht, hE0, hE1, hE2, hs, hp, hw, h3, h4, h5, E.cells, cv_caps hc, cv_capsT hc, SubI, hR]
    · rw [hp] at hR
      simp at hR
      simp (config := {contextual := true}) [go_sem, ht, hE0, hE1, hE2, hs, hp, hw, h3, h4, h5, E.cells, cv_caps hc, cv_capsT hc, SubI, ← hR]
/-- What IndexFunc gives with a closure, told by what the closure holds. -/
noncomputable def idxSem {ι : Type} (E : En α) (fid : Nat) (caps : ι → List AV) (p : ι → α → Bool) : Fsem :=
  semOf (fun i : Nat × List α × ι => [.sl i.1 E.w (i.2.1.map (E.av i.1)), .fn fid (caps i.2.2)]) (fun _ => True) (fun _ i => .int .i64 (idx (p i.2.2) i.2.1))
theorem idxSem_eq {ι : Type} {fid : Nat} {caps : ι → List AV} {p : ι → α → Bool} {τ : Nat} {l : List α} (i : ι) (hi : ∀ j, caps j = caps i → p j = p i) : idxSem E fid caps p n [.sl τ E.w (l.map (E.av τ)), .fn fid (caps i)] = ⟨True, .int .i64 (idx (p i) l)⟩ :=
  semOf_eq (τ, l, i) rfl fun ⟨τ', l', j⟩ h => by
    obtain ⟨h1, h⟩ := cons_inj h
    obtain ⟨h2, _⟩ := cons_inj h
    have h3 : l' = l := E.list.inj (τ := τ') (τ' := τ) h1
    have h4 : caps j = caps i := by simpa using h2
    simp [hi j h4, h3]
theorem idxSem_pure {t e fid : Nat} {ι : Type} {caps : ι → List AV} {gf : Fsem} {p : ι → α → Bool} (hm : P.follows .mixedOrders = true) (hf : P.funcs[f]? = some fn) (hsl : slimF fn = some (idxC t e, [.t 4], nt)) (ho : okF [(fid, gf)] fn = true) (hnt : 2 ≤ nt)
    (ht : tyOf P t = .sl e) (hE : FitE P e E) (hfe : Pure P fid gf) (hc : ∀ i, ∀ c ∈ caps i, c.isD = true) (hs : ∀ i n τ x, gf n (E.av τ x :: caps i) = ⟨True, .bool (p i x)⟩) : Pure P f (idxSem E fid caps p) :=
  semOf_pure fun ⟨τ, l, i⟩ n h2 _ => indexFunc_ok hm hf hsl ho hnt ht hE hfe (hc i) (hs i) h2
noncomputable def cfSem {ι : Type} (E : En α) (fid : Nat) (caps : ι → List AV) (p : ι → α → Bool) : Fsem :=
  semOf (fun i : Nat × List α × ι => [.sl i.1 E.w (i.2.1.map (E.av i.1)), .fn fid (caps i.2.2)]) (fun _ => True) (fun _ i => .bool (i.2.1.any (p i.2.2)))
theorem cfSem_eq {ι : Type} {fid : Nat} {caps : ι → List AV} {p : ι → α → Bool} {τ : Nat} {l : List α} (i : ι) (hi : ∀ j, caps j = caps i → p j = p i) : cfSem E fid caps p n [.sl τ E.w (l.map (E.av τ)), .fn fid (caps i)] = ⟨True, .bool (l.any (p i))⟩ :=
  semOf_eq (τ, l, i) rfl fun ⟨τ', l', j⟩ h => by
    obtain ⟨h1, h⟩ := cons_inj h
    obtain ⟨h2, _⟩ := cons_inj h
    have h3 : l' = l := E.list.inj (τ := τ') (τ' := τ) h1
    have h4 : caps j = caps i := by simpa using h2
    simp [hi j h4, h3]
theorem cfSem_pure {t ft k fid : Nat} {ι : Type} {caps : ι → List AV} {gi : Fsem} {p : ι → α → Bool} (hm : P.follows .mixedOrders = true) (hf : P.funcs[f]? = some fn) (hsl : slimF fn = some (cfC t ft k, [.t 4], nt)) (ho : okF [(k, gi)] fn = true) (hnt : 2 ≤ nt)
    (hi : Pure P k gi) (hc : ∀ i, ∀ c ∈ caps i, c.isD = true) (hs : ∀ i n τ l, gi n [.sl τ E.w (l.map (E.av τ)), .fn fid (caps i)] = ⟨True, .int .i64 (idx (p i) l)⟩) : Pure P f (cfSem E fid caps p) :=
  semOf_pure fun ⟨τ, l, i⟩ n h2 _ => by
    have hT : Table P [(k, gi)] := .cons hi .nil
    refine SatP.of_body hT hm hf hsl ho h2 (by simpa using hnt) ?_
    have hb : decide (0 ≤ idx (p i) l) = l.any (p i) := by
      rw [Bool.eq_iff_iff, decide_eq_true_iff]
      exact idx_nonneg _ _
    simp (config := {contextual := true}) [cfC, go_sem, hs, hb, cv0_caps (hc i), cv0_capsT (hc i)]
end
end Go.Ve
namespace Go.Ve
open Go.RowKit
set_option linter.unusedVariables false
section
variable {P : Program} {t : Nat}
def avR (P : Program) (t : Nat) (cells : List AV) (x : AV) (rest : List (Nat × AV)) (o : Option (Nat × Nat)) : Prop × List AV :=
  match o with
  | some (off, ft) =>
    (P.cellsOf ft = x.cells.length ∧ (P.info? ft).isSome = true ∧ x.boxable = true ∧ off + x.cells.length ≤ cells.length ∧ (avFill P t (cells.take off ++ x.cells ++ cells.drop (off + x.cells.length)) rest).1,
      (avFill P t (cells.take off ++ x.cells ++ cells.drop (off + x.cells.length)) rest).2)
  | none => (False, [])
@[go_sem] theorem avFill_nil {cells : List AV} : avFill P t cells [] = (True, cells) := by simp only [avFill]
@[go_sem] theorem avFill_cons {cells : List AV} {i : Nat} {x : AV} {rest : List (Nat × AV)} : avFill P t cells ((i, x) :: rest) = avR P t cells x rest (fld P t i) := by
  unfold avR
  rw [avFill]
  cases fld P t i <;> rfl
@[go_sem] theorem avR_some {cells : List AV} {x : AV} {rest : List (Nat × AV)} {off ft : Nat} : avR P t cells x rest (some (off, ft)) = (P.cellsOf ft = x.cells.length ∧ (P.info? ft).isSome = true ∧ x.boxable = true ∧ off + x.cells.length ≤ cells.length ∧ (avFill P t (cells.take off ++ x.cells ++ cells.drop (off + x.cells.length)) rest).1,
      (avFill P t (cells.take off ++ x.cells ++ cells.drop (off + x.cells.length)) rest).2) := rfl
@[go_sem] theorem vBuild_eq {ps : List (Nat × AV)} : vBuild P t ps = ⟨fldsOk P t = true ∧ zOk P t = true ∧ (avFill P t (zcells P t) ps).1, .agg (avFill P t (zcells P t) ps).2⟩ := rfl
end
end Go.Ve
namespace Go.Ve
open Go.RowKit
set_option linter.unusedVariables false
set_option linter.unusedSimpArgs false
set_option maxRecDepth 10000
/-- Strings, measured by their bytes. -/
def En.strz : En ByteArray where
  w := 1
  pos := Nat.one_pos
  one := true
  cs _ a := [.str a]
  tot a := a.size
  dec l := match l with
    | [.str a] => a
    | _ => ⟨#[]⟩
  len _ _ := rfl
  hone _ := rfl
  dat _ x y hy := by simp only [List.mem_cons, List.not_mem_nil, or_false] at hy; subst hy; rfl
  nz _ x _ y hy := by simp only [List.mem_cons, List.not_mem_nil, or_false] at hy; subst hy; exact .str ..
  hdec _ _ := rfl
@[go_sem] theorem En.av_strz {τ : Nat} {a : ByteArray} : En.strz.av τ a = .str a := rfl
@[go_sem] theorem En.cs_strz {τ : Nat} {a : ByteArray} : En.strz.cs τ a = [.str a] := rfl
@[go_sem] theorem En.w_strz : En.strz.w = 1 := rfl
@[go_sem] theorem en_strz_fun {τ : Nat} : En.strz.av τ = AV.str := rfl
section
variable {α : Type} {E : En α} {n : Nat} {P : Program} {f : FuncId} {fn : Func} {nt : Nat}
end
end Go.Ve
