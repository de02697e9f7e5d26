/- Words for the functions that the print leaves out: a row's value stored, where a predicate first holds. No condition. -/
import Derived.Test.YthphhklbliambaaWMore
namespace Go.Proofs.YthphhklbliambaaW.PrintWords
open Go.RowKit
/-- Where a predicate first holds from i on, or -1. -/
def idxP {α : Type} (p : α → Bool) : List α → Nat → Int
  | [], _ => -1
  | x :: r, i => if p x = true then (i : Int) else idxP p r (i + 1)
theorem idxP_drop {α : Type} (p : α → Bool) (l : List α) (i : Nat) (h : i < l.length) : idxP p (l.drop i) i = if p l[i] = true then (i : Int) else idxP p (l.drop (i + 1)) (i + 1) := by
  rw [List.drop_eq_getElem_cons h]; rfl
theorem idxP_any {α : Type} (p : α → Bool) (l : List α) : ∀ i : Nat, (0 ≤ idxP p l i) ↔ l.any p = true := by
  induction l with
  | nil => intro i; simp [idxP]
  | cons x r ih =>
    intro i
    simp only [idxP]
    by_cases h : p x = true
    · rw [if_pos h]
      simp [h]
    · rw [if_neg h, ih]
      simp [h]
theorem idxP_dec {α : Type} (p : α → Bool) (l : List α) : decide (0 ≤ idxP p l 0) = l.any p := by
  cases h : l.any p with
  | true => exact decide_eq_true ((idxP_any p l 0).2 h)
  | false => exact decide_eq_false (fun h2 => by rw [(idxP_any p l 0).1 h2] at h; cases h)
/-! short names, for texts that would pass a file's bound -/
abbrev kfa := @Kd.R_far
abbrev kfr := @blk_frozen
abbrev kce := @blk_cell
abbrev kdn := @blk_drewN
abbrev kdr := @blk_drew
abbrev kal := @blk_alloc
abbrev am := @Aside0.mk
abbrev kra := @Kd.R_alloc
abbrev krn := @Kd.R_drewN
abbrev krd := @Kd.R_drew
abbrev pdn := @pw_below_drewN
abbrev bst := @below_set
abbrev bal := @below_alloc
abbrev bd1 := @below_drew1
abbrev krb := @Kd.R_below
abbrev kre := @Kd.R_elder'
abbrev kbb := @blk_below
abbrev kca := @Kd.C_alloc
abbrev kcn := @Kd.C_drewN
abbrev kcd := @Kd.C_drew
theorem rd_at0 {l : List Int} {i : Nat} (h : i < l.length) : rd l (i : Int) = l[i] := by
  simp [rd, List.getD_eq_getElem?_getD, List.getElem?_eq_getElem h]
end Go.Proofs.YthphhklbliambaaW.PrintWords
