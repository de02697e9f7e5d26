/- Words for the functions that the print leaves out: a row's value stored, where a predicate first holds. No condition. -/
import Derived.Test.YtmpakjgbbjkacaaDoorWMore
namespace Go.Proofs.YtmpakjgbbjkacaaDoorW.PrintWords
open Go.RowKit
theorem store_of_row {P : Program} {α : Type} {d : Kd α} {e base : Nat} {ok : Nat → Prop} {w : World} {v : Value} {xs : List α} (h : d.R e w base ok v xs) :
    ∀ (a : Addr) (W : World) (old : Value), W.cell? a = some old → W.frozen? a = false → Sem.run P (store a v) W = .ok () (W.setCell a v) := by
  intro a W old hc hf
  obtain ⟨A, c, rfl⟩ := Kd.R_slice h
  go_simp
/-- Where a predicate first holds from i on, or -1. -/
def idxP {α : Type} (p : α → Bool) : List α → Nat → Int
  | [], _ => -1
  | x :: r, i => if p x = true then (i : Int) else idxP p r (i + 1)
theorem idxP_drop {α : Type} (p : α → Bool) (l : List α) (i : Nat) (h : i < l.length) : idxP p (l.drop i) i = if p l[i] = true then (i : Int) else idxP p (l.drop (i + 1)) (i + 1) := by
  rw [List.drop_eq_getElem_cons h]; rfl
theorem idxP_range {α : Type} (p : α → Bool) (l : List α) : ∀ i : Nat, idxP p l i = -1 ∨ ((i : Int) ≤ idxP p l i ∧ idxP p l i < (i + l.length : Nat)) := by
  induction l with
  | nil => exact fun i => Or.inl rfl
  | cons x r ih =>
    intro i
    simp only [idxP]
    split
    · right
      simp
      omega
    · rcases ih (i + 1) with h | h
      · exact Or.inl h
      · right
        simp at h ⊢
        omega
theorem idxP_any {α : Type} (p : α → Bool) (l : List α) : ∀ i : Nat, (0 ≤ idxP p l i) ↔ l.any p = true := by
  induction l with
  | nil => intro i; simp [idxP]
  | cons x r ih =>
    intro i
    simp only [idxP]
    by_cases h : p x = true
    · rw [if_pos h]
      simp [h]
    · rw [if_neg h, ih]
      simp [h]
theorem idxP_dec {α : Type} (p : α → Bool) (l : List α) : decide (0 ≤ idxP p l 0) = l.any p := by
  cases h : l.any p with
  | true => exact decide_eq_true ((idxP_any p l 0).2 h)
  | false => exact decide_eq_false (fun h2 => by rw [(idxP_any p l 0).1 h2] at h; cases h)
/-! short names, for texts that would pass a file's bound -/
abbrev kfa := @Kd.R_far
abbrev kfr := @blk_frozen
abbrev kce := @blk_cell
abbrev kdn := @blk_drewN
abbrev kdr := @blk_drew
abbrev kal := @blk_alloc
abbrev am := @Aside0.mk
abbrev kra := @Kd.R_alloc
abbrev krn := @Kd.R_drewN
abbrev krd := @Kd.R_drew
abbrev pdn := @pw_below_drewN
abbrev bst := @below_set
abbrev bal := @below_alloc
abbrev bd1 := @below_drew1
abbrev krb := @Kd.R_below
abbrev kre := @Kd.R_elder'
abbrev kbb := @blk_below
abbrev kca := @Kd.C_alloc
abbrev kcn := @Kd.C_drewN
abbrev kcd := @Kd.C_drew
theorem rd_at0 {l : List Int} {i : Nat} (h : i < l.length) : rd l (i : Int) = l[i] := by
  simp [rd, List.getD_eq_getElem?_getD, List.getElem?_eq_getElem h]
/-- As Kd.R_keptB, some orders having been drawn ahead of the call. -/
theorem Kd.R_keptB2 {α : Type} {d : Kd α} {e base : Nat} {W W' W2 : World} {ok : Nat → Prop} {S : Nat → Prop} {v : Value} {xs : List α} (h : d.R e W base ok v xs) (hk : Kept W' W2 S) (hne : ∀ k, ok k → ¬ S k) (hW : W' = W ∨ ∃ n, W' = W.drewN n := by first | exact Or.inl rfl | exact Or.inr ⟨_, rfl⟩) : d.R e W2 base (fun k => ok k ∧ (¬ S k ∧ k < W'.heap.size)) v xs := by
  rcases hW with rfl | ⟨n, rfl⟩
  · exact Kd.R_keptB h hk hne
  · exact Kd.R_keptB (Kd.R_drewN h n) hk hne
end Go.Proofs.YtmpakjgbbjkacaaDoorW.PrintWords
