/- From an argument's cells, read as data, to the kinds that the contracts of the printed functions ask: whole numbers, bools, strings, slices and structs in one another. No condition beside the row's own reach. -/
import Derived.Test.YtmpakjgbbjkacaaDoorWWords
import Derived.SizedLaws
import Derived.ChangeSlices
import Derived.ChangeArms
import Derived.Deep.Slices
import Derived.OpenShut
namespace Go.Proofs.YtmpakjgbbjkacaaDoor.Opens
open Go.Proofs.YtmpakjgbbjkacaaDoorW.PrintWords Go.RowKit Go.Deep

/-- Every weight of a datum lies within the reach. -/
def Fits {H : Type} (P : Program) (T : TypeId) (D : DataW H) : Prop := ∀ n ∈ D.weights P T, n ≤ 140737488351232
/-- What cells that read as data of a type say. -/
def Reads (P : Program) (T : TypeId) (Q : World → List Value → Prop) : Prop :=
  ∀ (H : Type) (enc : TypeId × Value → H) (w : World) (base : Nat) (spare : Nat → Bool) (held : Bool) (fuel : Nat) (cs : List Value) (x : DataW H × List MemPlace),
    DataW.trod enc P w base spare held fuel T cs = some x → Fits P T x.1 → Q w cs
/-- A value of a kind, with what is known of it. -/
def Of {α : Type} (d : Kd α) (ok : α → Prop) (w : World) (cs : List Value) : Prop := ∃ x, d.K w x cs ∧ ok x

theorem Reads.imp {P : Program} {T : TypeId} {Q Q' : World → List Value → Prop} (h : Reads P T Q) (hq : ∀ w cs, Q w cs → Q' w cs) : Reads P T Q' :=
  fun H enc w base spare held fuel cs x hx hf => hq _ _ (h H enc w base spare held fuel cs x hx hf)

theorem reads_int {P : Program} {T : TypeId} {k : IntKind} (ht : P.underlying T = some (.int k)) : Reads P T (Of (Kd.int k) (fun n => (Lit.int k n).wf = true)) := by
  intro H enc w base spare held fuel cs x hx _
  obtain ⟨n, rfl, _, hw⟩ := DataW.trod_int ht hx
  exact ⟨n, rfl, hw⟩
theorem reads_bool {P : Program} {T : TypeId} (ht : P.underlying T = some .bool) : Reads P T (Of Kd.bool (fun _ => True)) := by
  intro H enc w base spare held fuel cs x hx _
  obtain ⟨b, rfl, _⟩ := DataW.trod_bool ht hx
  exact ⟨b, rfl, trivial⟩
theorem reads_string {P : Program} {T : TypeId} (ht : P.underlying T = some .string) : Reads P T (Of Kd.string (fun s => s.size ≤ 140737488351232)) := by
  intro H enc w base spare held fuel cs x hx hf
  obtain ⟨s, rfl, rfl, _⟩ := DataW.trod_string ht hx
  refine ⟨s, rfl, ?_⟩
  have := hf s.data.toList.length (by simp [DataW.weights])
  simpa using this

theorem weightsAll_mem {H : Type} {P : Program} {e : TypeId} {d : DataW H} {n : Nat} (hn : n ∈ d.weights P e) : ∀ {l : List (DataW H)}, d ∈ l → n ∈ DataW.weightsAll P e l
  | [], h => by cases h
  | a :: l, h => by
    unfold DataW.weightsAll
    rcases List.mem_cons.1 h with rfl | h
    · exact List.mem_append_left _ hn
    · exact List.mem_append_right _ (weightsAll_mem hn h)

theorem addr_add_add (a : Addr) (i j : Nat) : (a.add i).add j = a.add (i + j) := by
  unfold Addr.add
  by_cases hi : i = 0
  · subst hi; simp
  · by_cases hj : j = 0
    · subst hj; simp [hi]
    · have h : ¬ (i = 0 ∧ j = 0) := by omega
      simp [hi, hj, Nat.add_assoc]

theorem reads_slice {α : Type} {P : Program} {T e : TypeId} {d : Kd α} {ok : α → Prop} (B : Nat) (ht : P.underlying T = some (.slice e)) (hc : P.cellsOf e = d.sz) (hb : P.bytesOf e = B) (he : Reads P e (Of d ok)) :
    Reads P T (Of (Kd.slice e d) (fun xs => xs.length ≤ maxLen ∧ xs.length * B ≤ 140737488351232 ∧ ∀ x ∈ xs, ok x)) := by
  intro H enc w base spare held fuel cs x hx hf
  rcases open_slice ht hx with ⟨rfl, rfl⟩ | ⟨a, len, cap, m, n, D, Pl, rfl, hbase, hl, hm, hmm, rfl, hel⟩
  · exact ⟨[], ⟨none, 0, rfl, Nat.le_refl _, Kd.C_nil d w⟩, Nat.zero_le _, by simp, fun x hx => by cases hx⟩
  · have hlm : len ≤ m := by rw [hmm]; split <;> omega
    have hfit : ∀ i, i < len → Fits P e (D i) := fun i hi q hq => hf q (by
      simp only [DataW.weights, ht]
      exact List.mem_cons_of_mem _ (List.mem_append_left _ (weightsAll_mem hq (List.mem_map.2 ⟨i, List.mem_range.2 hi, rfl⟩))))
    have hw : len * B ≤ 140737488351232 := by
      have := hf _ (show (((List.range len).map D).length + ((List.range (m - len)).map fun j => D (len + j)).length) * P.bytesOf e ∈ _ by
        simp only [DataW.weights, ht]
        exact List.mem_cons_self)
      rw [hb] at this
      refine Nat.le_trans (Nat.mul_le_mul_right _ ?_) this
      simp
    have key : ∀ q, q ≤ len → ∃ xs : List α, xs.length = q ∧ ∀ j p, xs[j]? = some p → ok p ∧ ∃ c, c.length = d.sz ∧ d.K w p c ∧ ∀ i u, c[i]? = some u → w.cell? (a.add (j * d.sz + i)) = some u := by
      intro q
      induction q with
      | zero => exact fun _ => ⟨[], rfl, fun j p h => by simp at h⟩
      | succ q ih =>
        intro hq
        obtain ⟨xs, hxl, hxs⟩ := ih (by omega)
        obtain ⟨cs', h1, h2⟩ := hel q (by omega)
        obtain ⟨y, hy, hoy⟩ := he H enc w base spare held n cs' (D q, Pl q) h2 (hfit q (by omega))
        obtain ⟨_, hcl, hcell⟩ := World.cells?_some h1
        refine ⟨xs ++ [y], by simp [hxl], fun j p hj => ?_⟩
        by_cases hjq : j < q
        · rw [List.getElem?_append_left (by omega)] at hj
          exact hxs j p hj
        · have hjl : j < (xs ++ [y]).length := (List.getElem?_eq_some_iff.1 hj).1
          simp [hxl] at hjl
          obtain rfl : j = q := by omega
          rw [List.getElem?_append_right (by omega), hxl] at hj
          simp at hj
          subst hj
          refine ⟨hoy, cs', by rw [hcl, hc], hy, fun i u hu => ?_⟩
          have hi : i < P.cellsOf e := by
            have := (List.getElem?_eq_some_iff.1 hu).1
            omega
          have := hcell i hi
          rw [addr_add_add, hc] at this
          rw [this, hu]
    obtain ⟨xs, hxl, hxs⟩ := key len (Nat.le_refl _)
    refine ⟨xs, ⟨some a, cap, by rw [hxl], by omega, ?_⟩, by omega, by rw [hxl]; exact hw, ?_⟩
    · refine ⟨rfl, by rw [hxl]; simp only [maxLen] at hm; omega, fun _ => ⟨a, rfl, fun j p hj => (hxs j p hj).2⟩⟩
    · intro x hx
      obtain ⟨j, hj⟩ := List.mem_iff_getElem?.1 hx
      exact (hxs j x hj).1

/-- Fields in line. -/
def RowQ : List (Nat × (World → List Value → Prop)) → World → List Value → Prop
  | [], _, cs => cs = []
  | (n, Q) :: r, w, cs => ∃ c rest, cs = c ++ rest ∧ c.length = n ∧ Q w c ∧ RowQ r w rest
/-- A struct's fields, each with what its cells say. -/
def FieldsFit (P : Program) (tot : Nat) : List Field → List (Nat × (World → List Value → Prop)) → Nat → Prop
  | [], [], off => off = tot
  | f :: fs, (n, Q) :: r, off => f.offset = off ∧ P.cellsOf f.type = n ∧ Reads P f.type Q ∧ FieldsFit P tot fs r (off + n)
  | _, _, _ => False
theorem FieldsFit.nil {P : Program} {tot off : Nat} (h : off = tot) : FieldsFit P tot [] [] off := h
theorem FieldsFit.cons {P : Program} {tot off n : Nat} {f : Field} {fs : List Field} {Q : World → List Value → Prop} {r : List (Nat × (World → List Value → Prop))} (h0 : f.offset = off) (h1 : P.cellsOf f.type = n) (h2 : Reads P f.type Q) (h3 : FieldsFit P tot fs r (off + n)) : FieldsFit P tot (f :: fs) ((n, Q) :: r) off := ⟨h0, h1, h2, h3⟩
theorem FieldsFit.le {P : Program} {tot : Nat} : ∀ {fs : List Field} {l : List (Nat × (World → List Value → Prop))} {off : Nat}, FieldsFit P tot fs l off → off ≤ tot
  | [], [], off, h => by unfold FieldsFit at h; omega
  | f :: fs, (n, Q) :: r, off, h => by
    unfold FieldsFit at h
    have := FieldsFit.le h.2.2.2
    omega
  | [], _ :: _, _, h => by unfold FieldsFit at h; exact h.elim
  | _ :: _, [], _, h => by unfold FieldsFit at h; exact h.elim
theorem rowQ_of {H : Type} {enc : TypeId × Value → H} {P : Program} {w : World} {base : Nat} {spare : Nat → Bool} {held : Bool} {n tot : Nat} {cs : List Value} (hl : cs.length = tot) :
    ∀ (fs : List Field) (l : List (Nat × (World → List Value → Prop))) (off : Nat) (xs : List (DataW H × List MemPlace)), FieldsFit P tot fs l off → xs.length = fs.length →
      (∀ (i : Nat) (f : Field), fs[i]? = some f → DataW.trod enc P w base spare held n f.type ((cs.drop f.offset).take (P.cellsOf f.type)) = xs[i]?) →
      (∀ q ∈ DataW.weightsEach P (fs.map (·.type)) (xs.map (·.1)), q ≤ 140737488351232) → RowQ l w (cs.drop off)
  | [], [], off, xs, h, _, _, _ => by
    unfold FieldsFit at h
    unfold RowQ
    rw [List.drop_of_length_le (by omega)]
  | f :: fs, (m, Q) :: r, off, xs, h, hlen, ht, hw => by
    unfold FieldsFit at h
    obtain ⟨ho, hm, hr, hf⟩ := h
    have hle := FieldsFit.le hf
    cases xs with
    | nil => simp at hlen
    | cons x xs =>
      unfold RowQ
      have h0 := ht 0 f rfl
      rw [ho, hm] at h0
      refine ⟨(cs.drop off).take m, (cs.drop off).drop m, (List.take_append_drop _ _).symm, by rw [List.length_take, List.length_drop]; omega, ?_, ?_⟩
      · exact hr H enc w base spare held n _ x (by simpa using h0) (fun q hq => hw q (by simp only [List.map_cons, DataW.weightsEach]; exact List.mem_append_left _ hq))
      · rw [List.drop_drop]
        exact rowQ_of hl fs r (off + m) xs hf (by simpa using hlen) (fun i g hg => by simpa using ht (i + 1) g (by simpa using hg)) (fun q hq => hw q (by simp only [List.map_cons, DataW.weightsEach]; exact List.mem_append_right _ hq))
  | [], _ :: _, _, _, h, _, _, _ => by unfold FieldsFit at h; exact h.elim
  | _ :: _, [], _, _, h, _, _, _ => by unfold FieldsFit at h; exact h.elim
theorem reads_struct {P : Program} {T : TypeId} {fs : Array Field} (l : List (Nat × (World → List Value → Prop))) (ht : P.underlying T = some (.struct fs)) (hf : FieldsFit P (P.cellsOf T) fs.toList l 0) : Reads P T (RowQ l) := by
  intro H enc w base spare held fuel cs x hx hfit
  obtain ⟨xs, n, _, rfl, hl, hlen, hg⟩ := DataW.trod_struct ht hx
  have := rowQ_of (enc := enc) (w := w) (base := base) (spare := spare) (held := held) (n := n) hl fs.toList l 0 xs hf (by simpa using hlen) (fun i f hi => hg i f (by simpa using hi)) (fun q hq => hfit q (by simp only [DataW.weights, ht]; exact hq))
  simpa using this
theorem reads_row {P : Program} {T : TypeId} {Q : World → List Value → Prop} (h : Reads P T Q) {H : Type} {enc : TypeId × Value → H} {w : World} {base : Nat} {spare : Nat → Bool} {held : Bool} {v : Value} {d : DataW H} {ps : List MemPlace} {ts : List TypeId} {ds : List (DataW H)} {j : Nat}
    (hsz : (DataW.weightsEach P ts ds).all (· ≤ reachBytes) = true) (ht : ts[j]? = some T) (hd : ds[j]? = some d) (hr : DataW.Trod enc P w base spare held T v d ps) : Q w v.cells.toList := by
  obtain ⟨fuel, hf⟩ := hr
  refine h H enc w base spare held fuel _ _ hf (fun n hn => ?_)
  have := List.all_eq_true.1 hsz _ (DataW.weights_mem_each ht hd n hn)
  have h2 := of_decide_eq_true this
  simpa [reachBytes] using h2
end Go.Proofs.YtmpakjgbbjkacaaDoor.Opens
