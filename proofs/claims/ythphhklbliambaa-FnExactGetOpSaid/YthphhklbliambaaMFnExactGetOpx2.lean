-- Written by a program of this session (wip/tools/myprint.py) over the kit's print: it is not the kit's print.
import Derived.Test.YthphhklbliambaaExtra
import Derived.Test.YthphhklbliambaaMFnExactGetOpx0
import Derived.Test.YthphhklbliambaaMFnExactGetOpx1
namespace Go.Proofs.Ythphhklbliambaa.MFnExactGetOp
open Go.RowKit Go.Proofs.YthphhklbliambaaW.PrintWords Go.Proofs.YthphhklbliambaaW.PrintLast Go.Proofs.YthphhklbliambaaW.PrintMore
open List renaming map_toArray → mta, map_cons → mco, map_nil → mni, length_drop → lnd, length_take → lnt
attribute [local go_sem] max2_int min2_int max_two min_two max_three min_three max_four min_four   -- for this text's walks alone
set_option linter.unusedVariables false
set_option linter.unusedSimpArgs false

/-- A state of type 114 at block g of W; what its slices lead to came in by w0. -/
def IsS114 (w0 W : World) (g : Nat) (f0 : ByteArray) (f1 : Int) (f2 : Bool) : Prop := W.heap[g]? = some (.cells #[.string f0, .int .i64 f1, .bool f2] 114 (0, 0)) ∧ w0.heap.size ≤ g
theorem IsS114.grown {w0 W : World} {g : Nat} {f0 : ByteArray} {f1 : Int} {f2 : Bool} {W1 : World} {row : Option Nat} (h : IsS114 w0 W g f0 f1 f2) (hw : W.grownBy W1 row) (hne : some g ≠ row) : IsS114 w0 W1 g f0 f1 f2 := by
 obtain ⟨hb, hg⟩ := h
 exact ⟨blk_grown hb hw hne, hg⟩
theorem IsS114.own_neN {w0 W : World} {g : Nat} {f0 : ByteArray} {f1 : Int} {f2 : Bool} {α : Type} {d : Kd α} {e : Nat} {base : Nat} {ok : Nat → Prop} {v : Value} {xs : List α} (h : IsS114 w0 W g f0 f1 f2) (ho : Kd.N d e W base ok v xs) (ht : e ≠ 114) : some g ≠ v.ownBlock := by
 obtain ⟨hb, hg⟩ := h
 exact Kd.N_ne ho hb ht
theorem IsS114.fresh {w0 W : World} {g : Nat} {f0 : ByteArray} {f1 : Int} {f2 : Bool} (h : IsS114 w0 W g f0 f1 f2) : ∀ k, W.heap.size ≤ k → k ≠ g := by
 obtain ⟨hb, hg⟩ := h
 exact Kd.freshB hb
theorem IsS114.kept {w0 W : World} {g : Nat} {f0 : ByteArray} {f1 : Int} {f2 : Bool} {W1 : World} {S : Nat → Prop} (h : IsS114 w0 W g f0 f1 f2) (hk : Kept W W1 S) (hne : ¬ S g) : IsS114 w0 W1 g f0 f1 f2 := by
 obtain ⟨hb, hg⟩ := h
 exact ⟨blk_kept hb hk hne, hg⟩
theorem IsS114.below {w0 W : World} {g : Nat} {f0 : ByteArray} {f1 : Int} {f2 : Bool} {W1 : World} (h : IsS114 w0 W g f0 f1 f2) (hw : Below W.heap.size W W1) : IsS114 w0 W1 g f0 f1 f2 := h.grown (grown_of_below hw none) (by simp)
theorem IsS114.alloc {w0 W : World} {g : Nat} {f0 : ByteArray} {f1 : Int} {f2 : Bool} (h : IsS114 w0 W g f0 f1 f2) (o : Obj) : IsS114 w0 (W.alloc o) g f0 f1 f2 := h.below (bal (Below.refl _ _) o)
theorem IsS114.drewN {w0 W : World} {g : Nat} {f0 : ByteArray} {f1 : Int} {f2 : Bool} (h : IsS114 w0 W g f0 f1 f2) (m : Nat) : IsS114 w0 (W.drewN m) g f0 f1 f2 := h
theorem IsS114.drew {w0 W : World} {g : Nat} {f0 : ByteArray} {f1 : Int} {f2 : Bool} (h : IsS114 w0 W g f0 f1 f2) : IsS114 w0 W.drew g f0 f1 f2 := h
theorem IsS114.at_ {w0 W : World} {g : Nat} {f0 : ByteArray} {f1 : Int} {f2 : Bool} {w' : World} {m : Nat} (hq : W.drewN m = w') (h : IsS114 w0 W g f0 f1 f2) : IsS114 w0 w' g f0 f1 f2 := by subst hq; exact IsS114.drewN h m
theorem IsS114.apart {w0 W : World} {g : Nat} {f0 : ByteArray} {f1 : Int} {f2 : Bool} {α : Type} {d : Kd α} {e : Nat} {base : Nat} {ok : Nat → Prop} {v : Value} {xs : List α} (h : IsS114 w0 W g f0 f1 f2) (ho : d.R e W base ok v xs) (ht : ∀ q, q ∈ e :: d.E → q ≠ 114) : d.R e W base (fun k => ok k ∧ k ≠ g) v xs := by
 obtain ⟨hb, hg⟩ := h
 exact Kd.R_types ho hb ht
theorem IsS114.own_ne {w0 W : World} {g : Nat} {f0 : ByteArray} {f1 : Int} {f2 : Bool} {α : Type} {d : Kd α} {e : Nat} {base : Nat} {ok : Nat → Prop} {v : Value} {xs : List α} (h : IsS114 w0 W g f0 f1 f2) (ho : d.R e W base ok v xs) (ht : e ≠ 114) : some g ≠ v.ownBlock := by
 obtain ⟨hb, hg⟩ := h
 exact Kd.R_ne ho hb ht
theorem IsS114.apartQ {w0 W : World} {g : Nat} {f0 : ByteArray} {f1 : Int} {f2 : Bool} {α : Type} {d : Kd α} {e : Nat} {base : Nat} {ok : Nat → Prop} {v : Value} {xs : List α} (h : IsS114 w0 W g f0 f1 f2) (ho : d.Q e W base ok v xs) (ht : ∀ q, q ∈ e :: d.E → q ≠ 114) : d.Q e W base (fun k => ok k ∧ k ≠ g) v xs := by
 obtain ⟨hb, hg⟩ := h
 exact Kd.Q_types ho hb ht
theorem IsS114.own_neQ {w0 W : World} {g : Nat} {f0 : ByteArray} {f1 : Int} {f2 : Bool} {α : Type} {d : Kd α} {e : Nat} {base : Nat} {ok : Nat → Prop} {v : Value} {xs : List α} (h : IsS114 w0 W g f0 f1 f2) (ho : d.Q e W base ok v xs) (ht : e ≠ 114) : some g ≠ v.ownBlock := by
 obtain ⟨hb, hg⟩ := h
 exact Kd.Q_ne ho hb ht
theorem IsS114.apartS {w0 W : World} {g : Nat} {f0 : ByteArray} {f1 : Int} {f2 : Bool} {α : Type} {d : Kd α} {e : Nat} {base : Nat} {ok : Nat → Prop} {v : Value} {xs : List α} (h : IsS114 w0 W g f0 f1 f2) (ho : d.S e W base ok v xs) (ht : ∀ q, q ∈ e :: d.E → q ≠ 114) : d.S e W base (fun k => ok k ∧ k ≠ g) v xs := by
 obtain ⟨hb, hg⟩ := h
 exact Kd.S_types ho hb ht
theorem IsS114.own_neS {w0 W : World} {g : Nat} {f0 : ByteArray} {f1 : Int} {f2 : Bool} {α : Type} {d : Kd α} {e : Nat} {base : Nat} {ok : Nat → Prop} {v : Value} {xs : List α} (h : IsS114 w0 W g f0 f1 f2) (ho : d.S e W base ok v xs) (ht : e ≠ 114) : some g ≠ v.ownBlock := by
 obtain ⟨hb, hg⟩ := h
 exact Kd.S_ne ho hb ht
theorem IsS114.lt {w0 W : World} {g : Nat} {f0 : ByteArray} {f1 : Int} {f2 : Bool} (h : IsS114 w0 W g f0 f1 f2) : g < W.heap.size := by
 obtain ⟨hb, hg⟩ := h
 exact blk_lt hb
theorem IsS114.ge {w0 W : World} {g : Nat} {f0 : ByteArray} {f1 : Int} {f2 : Bool} (h : IsS114 w0 W g f0 f1 f2) : w0.heap.size ≤ g := by
 obtain ⟨hb, hg⟩ := h
 exact hg
theorem IsS114.ne_blk {w0 W : World} {g : Nat} {f0 : ByteArray} {f1 : Int} {f2 : Bool} {a : Nat} {cs : Array Value} {t : TypeId} {fr : Nat × Nat} (h : IsS114 w0 W g f0 f1 f2) (hb2 : W.heap[a]? = some (.cells cs t fr)) (ht : t ≠ 114) : g ≠ a := by
 obtain ⟨hb, hg⟩ := h
 rintro rfl
 rw [hb] at hb2
 injection hb2 with hb2
 injection hb2 with _ ht2
 exact ht ht2.symm
theorem IsS114.far {w0 W : World} {g : Nat} {f0 : ByteArray} {f1 : Int} {f2 : Bool} {p : Addr} (h : IsS114 w0 W g f0 f1 f2) (hne : g ≠ p.block) (u : Value) : IsS114 w0 (W.setCell p u) g f0 f1 f2 := by
 obtain ⟨hb, hg⟩ := h
 exact ⟨blk_far hb hne u, hg⟩
theorem cellS114_0 {W : World} {g : Nat} {f0 : ByteArray} {f1 : Int} {f2 : Bool} (h : W.heap[g]? = some (.cells #[.string f0, .int .i64 f1, .bool f2] 114 (0, 0))) : W.cell? ⟨g, 0, none⟩ = some (.string f0) := (kce h 0).trans rfl
theorem IsS114.set_0 {w0 W : World} {g : Nat} {f0 : ByteArray} {f1 : Int} {f2 : Bool} (h : IsS114 w0 W g f0 f1 f2) (x : ByteArray) : IsS114 w0 (W.setCell ⟨g, 0, none⟩ (.string x)) g x f1 f2 := by
 obtain ⟨hb, hg⟩ := h
 exact ⟨by simpa using blk_set hb 0 (.string x), hg⟩
theorem cellS114_1 {W : World} {g : Nat} {f0 : ByteArray} {f1 : Int} {f2 : Bool} (h : W.heap[g]? = some (.cells #[.string f0, .int .i64 f1, .bool f2] 114 (0, 0))) : W.cell? ⟨g, 1, none⟩ = some (.int .i64 f1) := (kce h 1).trans rfl
theorem IsS114.set_1 {w0 W : World} {g : Nat} {f0 : ByteArray} {f1 : Int} {f2 : Bool} (h : IsS114 w0 W g f0 f1 f2) (x : Int) : IsS114 w0 (W.setCell ⟨g, 1, none⟩ (.int .i64 x)) g f0 x f2 := by
 obtain ⟨hb, hg⟩ := h
 exact ⟨by simpa using blk_set hb 1 (.int .i64 x), hg⟩
theorem cellS114_2 {W : World} {g : Nat} {f0 : ByteArray} {f1 : Int} {f2 : Bool} (h : W.heap[g]? = some (.cells #[.string f0, .int .i64 f1, .bool f2] 114 (0, 0))) : W.cell? ⟨g, 2, none⟩ = some (.bool f2) := (kce h 2).trans rfl
theorem IsS114.set_2 {w0 W : World} {g : Nat} {f0 : ByteArray} {f1 : Int} {f2 : Bool} (h : IsS114 w0 W g f0 f1 f2) (x : Bool) : IsS114 w0 (W.setCell ⟨g, 2, none⟩ (.bool x)) g f0 f1 x := by
 obtain ⟨hb, hg⟩ := h
 exact ⟨by simpa using blk_set hb 2 (.bool x), hg⟩
theorem IsS114.new (w0 W : World) (f0 : ByteArray) (f1 : Int) (f2 : Bool) (hB : Below w0.heap.size w0 W) : IsS114 w0 (W.alloc (.cells #[.string f0, .int .i64 f1, .bool f2] 114)) W.heap.size f0 f1 f2 := ⟨by simpa using heap_alloc_new W _, hB.size⟩

/-! ### spec_l16Src_num: function 90 -/
def spec_l16Src_num.f (k : Nat) (s0_0 : ByteArray) (s0_1 : Int) (s0_2 : Bool) : Option (Int × ByteArray × Int × Bool) := if 0 ≤ s0_1 then (if s0_1 ≤ (s0_0.size : Int) then ((spec_GetVar.f k (s0_0.extract (s0_1 : Int).toNat s0_0.size)).bind fun bt114 => (if bt114.2.2 = true then (some (bt114.1, s0_0, wrap64 (s0_1 + bt114.2.1), s0_2)) else (some (0, s0_0, s0_1, true)))) else (none)) else (none)
theorem spec_l16Src_num.mono : ∀ a0 a1 a2 k, LeO (spec_l16Src_num.f k a0 a1 a2) (spec_l16Src_num.f (k + 1) a0 a1 a2) := by
 intro a0 a1 a2 k
 unfold spec_l16Src_num.f
 repeat' first
   | (with_reducible exact spec_GetVar.mono _ _)
   | (with_reducible exact LeO.refl _)
   | (with_reducible exact LeO.none _)
   | (with_reducible refine LeO.ite ?_ ?_)
   | (with_reducible refine LeO.bind ?_ (fun _ => ?_))
   | exact spec_GetVar.mono _ _
   | exact LeO.none _
   | refine LeO.ite ?_ ?_
   | refine LeO.bind ?_ (fun _ => ?_)
set_option maxHeartbeats 8000000 in
set_option maxRecDepth 100000 in
theorem spec_l16Src_num.calls (k : Nat) (g : Nat) (s0_0 : ByteArray) (s0_1 : Int) (s0_2 : Bool) (r1 : Int) (r2 : ByteArray) (r3 : Int) (r4 : Bool) (w0 w : World) (hI : IsS114 w0 w g s0_0 s0_1 s0_2) (hB : Below w0.heap.size w0 w) (h : spec_l16Src_num.f k s0_0 s0_1 s0_2 = some (r1, r2, r3, r4)) :
  Calls Try.prog 90 #[.pointer (some ⟨g, 0, none⟩)] w fun e w' => e = .returned (.int .i64 r1) ∧ IsS114 w0 w' g r2 r3 r4 ∧ Below w0.heap.size w0 w' ∧ KeepBut w w' g none := by
 have HI0 := am hI
 have HK := am (KeepBut.refl w g none)
 have HL := am hB.size
 clear hI
 have HW0 := am hB.size
 have HB := am hB
 clear hB
 have H : (if 0 ≤ s0_1 then (if s0_1 ≤ (s0_0.size : Int) then ((spec_GetVar.f k (s0_0.extract (s0_1 : Int).toNat s0_0.size)).bind fun bt114 => (if bt114.2.2 = true then (some (bt114.1, s0_0, wrap64 (s0_1 + bt114.2.1), s0_2)) else (some (0, s0_0, s0_1, true)))) else (none)) else (none)) = some (r1, r2, r3, r4) := h
 clear h
 by_cases c2 : 0 ≤ s0_1
 ·rw [if_pos c2] at H
  have c2b0 := eq_true c2
  have c2b1 : decide (0 ≤ s0_1) = true := decide_eq_true c2
  clear c2
  by_cases c3 : s0_1 ≤ (s0_0.size : Int)
  ·rw [if_pos c3] at H
   have c3b0 := eq_true c3
   have c3b1 : decide (s0_1 ≤ (s0_0.size : Int)) = true := decide_eq_true c3
   clear c3
   replace H := Option.bind_eq_some_iff.mp H
   obtain ⟨⟨t114, t115, t116⟩, A40, H⟩ := H
   replace H : (if t116 = true then (some (t114, s0_0, wrap64 (s0_1 + t115), s0_2)) else (some (0, s0_0, s0_1, true))) = some (r1, r2, r3, r4) := H
   have A4 := am A40
   clear A40
   by_cases c5 : t116 = true
   ·subst c5
    have H1 : (some (t114, s0_0, wrap64 (s0_1 + t115), s0_2)) = some (r1, r2, r3, r4) := by rw [if_pos rfl] at H; exact H
    clear H
    have H := H1
    clear H1
    simp only [Option.some.injEq, Prod.mk.injEq] at H
    obtain ⟨rfl, rfl, rfl, rfl⟩ := H
    obtain ⟨HGz6, hgz6⟩ := HI0.out
    have hcz6_0 := cellS114_0 HGz6
    have hcz6_1 := cellS114_1 HGz6
    have hcz6_2 := cellS114_2 HGz6
    have hfz6_0 := kfr HGz6 0
    have hfz6_1 := kfr HGz6 1
    have hfz6_2 := kfr HGz6 2
    clear HGz6 hgz6
    go_enter Try.func90, Try.ntmps90
    go_wp2_with (first | (go_at_call 118; (with_reducible refine (spec_GetVar.calls k (s0_0.extract (s0_1 : Int).toNat s0_0.size) t114 t115 true _ A4.out).mono ?_); rintro e w' ⟨rfl, ⟨nd, rfl⟩⟩; (try first | exact ⟨rfl, _, World.drewN_drewN _ _ _⟩ | exact ⟨rfl, _, Eq.trans (World.drewN_drewN _ _ _) (congrArg (World.drewN _) (Nat.add_assoc _ _ _))⟩)))
    repeat (go_quiet (first | (go_at_call 118; (with_reducible refine (spec_GetVar.calls k (s0_0.extract (s0_1 : Int).toNat s0_0.size) t114 t115 true _ A4.out).mono ?_); rintro e w' ⟨rfl, ⟨nd, rfl⟩⟩; (try first | exact ⟨rfl, _, World.drewN_drewN _ _ _⟩ | exact ⟨rfl, _, Eq.trans (World.drewN_drewN _ _ _) (congrArg (World.drewN _) (Nat.add_assoc _ _ _))⟩))); try go_wp2_with (first | (go_at_call 118; (with_reducible refine (spec_GetVar.calls k (s0_0.extract (s0_1 : Int).toNat s0_0.size) t114 t115 true _ A4.out).mono ?_); rintro e w' ⟨rfl, ⟨nd, rfl⟩⟩; (try first | exact ⟨rfl, _, World.drewN_drewN _ _ _⟩ | exact ⟨rfl, _, Eq.trans (World.drewN_drewN _ _ _) (congrArg (World.drewN _) (Nat.add_assoc _ _ _))⟩))))
    go_ret
    exact ⟨by first | rfl | (simp [errW_none, errW_some] <;> rfl) | (simp [*, errW_none, errW_some] <;> rfl), by repeat (first | (with_reducible first | exact HI0.out | apply IsS114.alloc | apply IsS114.drewN | apply IsS114.drew | apply IsS114.set_0 | apply IsS114.set_1 | apply IsS114.set_2) | exact HI0.out), by repeat (first | (with_reducible first | exact HB.out | apply bal | apply pdn | apply bd1 | refine bst ?_ (IsS114.ge HI0.out)) | exact HB.out), by repeat (first | (with_reducible first | exact HK.out | apply KeepBut.set_ | apply keep_drewN | apply keep_drew | apply keep_alloc) | exact HK.out)⟩
   ·replace c5 := Bool.eq_false_iff.mpr c5
    subst c5
    have H1 : (some (0, s0_0, s0_1, true)) = some (r1, r2, r3, r4) := by rw [if_neg (show ¬ (false = true) by decide)] at H; exact H
    clear H
    have H := H1
    clear H1
    simp only [Option.some.injEq, Prod.mk.injEq] at H
    obtain ⟨rfl, rfl, rfl, rfl⟩ := H
    obtain ⟨HGz7, hgz7⟩ := HI0.out
    have hcz7_0 := cellS114_0 HGz7
    have hcz7_1 := cellS114_1 HGz7
    have hcz7_2 := cellS114_2 HGz7
    have hfz7_0 := kfr HGz7 0
    have hfz7_1 := kfr HGz7 1
    have hfz7_2 := kfr HGz7 2
    clear HGz7 hgz7
    go_enter Try.func90, Try.ntmps90
    go_wp2_with (first | (go_at_call 118; (with_reducible refine (spec_GetVar.calls k (s0_0.extract (s0_1 : Int).toNat s0_0.size) t114 t115 false _ A4.out).mono ?_); rintro e w' ⟨rfl, ⟨nd, rfl⟩⟩; (try first | exact ⟨rfl, _, World.drewN_drewN _ _ _⟩ | exact ⟨rfl, _, Eq.trans (World.drewN_drewN _ _ _) (congrArg (World.drewN _) (Nat.add_assoc _ _ _))⟩)))
    repeat (go_quiet (first | (go_at_call 118; (with_reducible refine (spec_GetVar.calls k (s0_0.extract (s0_1 : Int).toNat s0_0.size) t114 t115 false _ A4.out).mono ?_); rintro e w' ⟨rfl, ⟨nd, rfl⟩⟩; (try first | exact ⟨rfl, _, World.drewN_drewN _ _ _⟩ | exact ⟨rfl, _, Eq.trans (World.drewN_drewN _ _ _) (congrArg (World.drewN _) (Nat.add_assoc _ _ _))⟩))); try go_wp2_with (first | (go_at_call 118; (with_reducible refine (spec_GetVar.calls k (s0_0.extract (s0_1 : Int).toNat s0_0.size) t114 t115 false _ A4.out).mono ?_); rintro e w' ⟨rfl, ⟨nd, rfl⟩⟩; (try first | exact ⟨rfl, _, World.drewN_drewN _ _ _⟩ | exact ⟨rfl, _, Eq.trans (World.drewN_drewN _ _ _) (congrArg (World.drewN _) (Nat.add_assoc _ _ _))⟩))))
    go_ret
    exact ⟨by first | rfl | (simp [errW_none, errW_some] <;> rfl) | (simp [*, errW_none, errW_some] <;> rfl), by repeat (first | (with_reducible first | exact HI0.out | apply IsS114.alloc | apply IsS114.drewN | apply IsS114.drew | apply IsS114.set_0 | apply IsS114.set_1 | apply IsS114.set_2) | exact HI0.out), by repeat (first | (with_reducible first | exact HB.out | apply bal | apply pdn | apply bd1 | refine bst ?_ (IsS114.ge HI0.out)) | exact HB.out), by repeat (first | (with_reducible first | exact HK.out | apply KeepBut.set_ | apply keep_drewN | apply keep_drew | apply keep_alloc) | exact HK.out)⟩
  ·rw [if_neg c3] at H
   exact absurd H (by simp)
 ·rw [if_neg c2] at H
  exact absurd H (by simp)

/-! ### spec_l01GetText: function 132 -/
def spec_l01GetText.f (k : Nat) (a0 : ByteArray) (a1 : Int) : Option (ByteArray × Int × Bool) := (spec_l01Get.f k a0 a1).bind fun bt117 => (if bt117.2.2 = true then (if bt117.1 > (wrap64 ((a0.size : Int) - bt117.2.1)) then (some ((⟨#[]⟩ : ByteArray), 0, false)) else (if 0 ≤ bt117.2.1 then (if bt117.2.1 ≤ (wrap64 (bt117.2.1 + bt117.1)) then (if (wrap64 (bt117.2.1 + bt117.1)) ≤ (a0.size : Int) then (some (a0.extract (bt117.2.1 : Int).toNat ((wrap64 (bt117.2.1 + bt117.1)) : Int).toNat, wrap64 (bt117.2.1 + bt117.1), true)) else (none)) else (none)) else (none))) else (some ((⟨#[]⟩ : ByteArray), 0, false)))
theorem spec_l01GetText.mono : ∀ a0 a1 k, LeO (spec_l01GetText.f k a0 a1) (spec_l01GetText.f (k + 1) a0 a1) := by
 intro a0 a1 k
 unfold spec_l01GetText.f
 repeat' first
   | (with_reducible exact spec_l01Get.mono _ _ _)
   | (with_reducible exact LeO.refl _)
   | (with_reducible exact LeO.none _)
   | (with_reducible refine LeO.ite ?_ ?_)
   | (with_reducible refine LeO.bind ?_ (fun _ => ?_))
   | exact spec_l01Get.mono _ _ _
   | exact LeO.none _
   | refine LeO.ite ?_ ?_
   | refine LeO.bind ?_ (fun _ => ?_)
set_option maxHeartbeats 8000000 in
set_option maxRecDepth 100000 in
theorem spec_l01GetText.calls (k : Nat) (a0 : ByteArray) (a1 : Int) (r1 : ByteArray) (r2 : Int) (r3 : Bool) (w : World) (h : spec_l01GetText.f k a0 a1 = some (r1, r2, r3)) :
  Calls Try.prog 132 #[.string a0, .int .i64 a1] w fun e w' => e = .returned (.tuple #[.string r1, .int .i64 r2, .bool r3]) ∧ Drawn0 w w' := by
 have H : ((spec_l01Get.f k a0 a1).bind fun bt117 => (if bt117.2.2 = true then (if bt117.1 > (wrap64 ((a0.size : Int) - bt117.2.1)) then (some ((⟨#[]⟩ : ByteArray), 0, false)) else (if 0 ≤ bt117.2.1 then (if bt117.2.1 ≤ (wrap64 (bt117.2.1 + bt117.1)) then (if (wrap64 (bt117.2.1 + bt117.1)) ≤ (a0.size : Int) then (some (a0.extract (bt117.2.1 : Int).toNat ((wrap64 (bt117.2.1 + bt117.1)) : Int).toNat, wrap64 (bt117.2.1 + bt117.1), true)) else (none)) else (none)) else (none))) else (some ((⟨#[]⟩ : ByteArray), 0, false)))) = some (r1, r2, r3) := h
 clear h
 replace H := Option.bind_eq_some_iff.mp H
 obtain ⟨⟨t117, t118, t119⟩, A30, H⟩ := H
 replace H : (if t119 = true then (if t117 > (wrap64 ((a0.size : Int) - t118)) then (some ((⟨#[]⟩ : ByteArray), 0, false)) else (if 0 ≤ t118 then (if t118 ≤ (wrap64 (t118 + t117)) then (if (wrap64 (t118 + t117)) ≤ (a0.size : Int) then (some (a0.extract (t118 : Int).toNat ((wrap64 (t118 + t117)) : Int).toNat, wrap64 (t118 + t117), true)) else (none)) else (none)) else (none))) else (some ((⟨#[]⟩ : ByteArray), 0, false))) = some (r1, r2, r3) := H
 have A3 := am A30
 clear A30
 by_cases c4 : t119 = true
 ·subst c4
  have H1 : (if t117 > (wrap64 ((a0.size : Int) - t118)) then (some ((⟨#[]⟩ : ByteArray), 0, false)) else (if 0 ≤ t118 then (if t118 ≤ (wrap64 (t118 + t117)) then (if (wrap64 (t118 + t117)) ≤ (a0.size : Int) then (some (a0.extract (t118 : Int).toNat ((wrap64 (t118 + t117)) : Int).toNat, wrap64 (t118 + t117), true)) else (none)) else (none)) else (none))) = some (r1, r2, r3) := by rw [if_pos rfl] at H; exact H
  clear H
  have H := H1
  clear H1
  by_cases c5 : t117 > (wrap64 ((a0.size : Int) - t118))
  ·rw [if_pos c5] at H
   have c5b0 : decide ((wrap64 ((a0.size : Int) - t118)) < t117) = true := decide_eq_true c5
   clear c5
   simp only [Option.some.injEq, Prod.mk.injEq] at H
   obtain ⟨rfl, rfl, rfl⟩ := H
   go_enter Try.func132, Try.ntmps132
   go_wp2_with (first | ((with_reducible refine gate_callee (f := 131) rfl ?_); refine goesL_ (some 13) rfl rfl Try.func131 (by kernel_rfl) rfl #[.string a0, .int .i64 a1] rfl (by (try simp only [mta, mco, mni]); first | done | rfl | (simp only [lnd, lnt]; rfl)) ?_; (with_reducible refine (spec_l01Get.calls k a0 a1 t117 t118 true _ A3.out).mono ?_); rintro e w' ⟨rfl, ⟨nd, rfl⟩⟩; refine ⟨_, rfl, ?_⟩))
   go_ret3
   exact ⟨by first | rfl | (simp; done) | (simp [*]; done), by repeat (first | exact Drawn0.refl _ | apply Drawn0.step)⟩
  ·rw [if_neg c5] at H
   have c5b0 : decide ((wrap64 ((a0.size : Int) - t118)) < t117) = false := decide_eq_false c5
   clear c5
   by_cases c6 : 0 ≤ t118
   ·rw [if_pos c6] at H
    have c6b0 := eq_true c6
    have c6b1 : decide (0 ≤ t118) = true := decide_eq_true c6
    clear c6
    by_cases c7 : t118 ≤ (wrap64 (t118 + t117))
    ·rw [if_pos c7] at H
     have c7b0 := eq_true c7
     have c7b1 : decide (t118 ≤ (wrap64 (t118 + t117))) = true := decide_eq_true c7
     by_cases c8 : (wrap64 (t118 + t117)) ≤ (a0.size : Int)
     ·rw [if_pos c8] at H
      have c8b0 := eq_true c8
      have c8b1 : decide ((wrap64 (t118 + t117)) ≤ (a0.size : Int)) = true := decide_eq_true c8
      simp only [Option.some.injEq, Prod.mk.injEq] at H
      obtain ⟨rfl, rfl, rfl⟩ := H
      go_enter Try.func132, Try.ntmps132
      go_wp2_with (first | ((with_reducible refine gate_callee (f := 131) rfl ?_); refine goesL_ (some 13) rfl rfl Try.func131 (by kernel_rfl) rfl #[.string a0, .int .i64 a1] rfl (by (try simp only [mta, mco, mni]); first | done | rfl | (simp only [lnd, lnt]; rfl)) ?_; (with_reducible refine (spec_l01Get.calls k a0 a1 t117 t118 true _ A3.out).mono ?_); rintro e w' ⟨rfl, ⟨nd, rfl⟩⟩; refine ⟨_, rfl, ?_⟩))
      go_ret3
      exact ⟨by first | rfl | (simp; done) | (simp [*]; done), by repeat (first | exact Drawn0.refl _ | apply Drawn0.step)⟩
     ·rw [if_neg c8] at H
      exact absurd H (by simp)
    ·rw [if_neg c7] at H
     exact absurd H (by simp)
   ·rw [if_neg c6] at H
    exact absurd H (by simp)
 ·replace c4 := Bool.eq_false_iff.mpr c4
  subst c4
  have H1 : (some ((⟨#[]⟩ : ByteArray), 0, false)) = some (r1, r2, r3) := by rw [if_neg (show ¬ (false = true) by decide)] at H; exact H
  clear H
  have H := H1
  clear H1
  simp only [Option.some.injEq, Prod.mk.injEq] at H
  obtain ⟨rfl, rfl, rfl⟩ := H
  go_enter Try.func132, Try.ntmps132
  go_wp2_with (first | ((with_reducible refine gate_callee (f := 131) rfl ?_); refine goesL_ (some 13) rfl rfl Try.func131 (by kernel_rfl) rfl #[.string a0, .int .i64 a1] rfl (by (try simp only [mta, mco, mni]); first | done | rfl | (simp only [lnd, lnt]; rfl)) ?_; (with_reducible refine (spec_l01Get.calls k a0 a1 t117 t118 false _ A3.out).mono ?_); rintro e w' ⟨rfl, ⟨nd, rfl⟩⟩; refine ⟨_, rfl, ?_⟩))
  go_ret3
  exact ⟨by first | rfl | (simp; done) | (simp [*]; done), by repeat (first | exact Drawn0.refl _ | apply Drawn0.step)⟩

/-! ### spec_GetText: function 119 -/
def spec_GetText.f (k : Nat) (a0 : ByteArray) : Option (ByteArray × Int × Bool) := (spec_l01GetText.f k a0 0).bind fun bt120 => (some (bt120.1, bt120.2.1, bt120.2.2))
theorem spec_GetText.mono : ∀ a0 k, LeO (spec_GetText.f k a0) (spec_GetText.f (k + 1) a0) := by
 intro a0 k
 unfold spec_GetText.f
 repeat' first
   | (with_reducible exact spec_l01GetText.mono _ _ _)
   | (with_reducible exact LeO.refl _)
   | (with_reducible exact LeO.none _)
   | (with_reducible refine LeO.ite ?_ ?_)
   | (with_reducible refine LeO.bind ?_ (fun _ => ?_))
   | exact spec_l01GetText.mono _ _ _
   | exact LeO.none _
   | refine LeO.ite ?_ ?_
   | refine LeO.bind ?_ (fun _ => ?_)
set_option maxHeartbeats 8000000 in
set_option maxRecDepth 100000 in
theorem spec_GetText.calls (k : Nat) (a0 : ByteArray) (r1 : ByteArray) (r2 : Int) (r3 : Bool) (w : World) (h : spec_GetText.f k a0 = some (r1, r2, r3)) :
  Calls Try.prog 119 #[.string a0] w fun e w' => e = .returned (.tuple #[.string r1, .int .i64 r2, .bool r3]) ∧ Drawn0 w w' := by
 have H : ((spec_l01GetText.f k a0 0).bind fun bt120 => (some (bt120.1, bt120.2.1, bt120.2.2))) = some (r1, r2, r3) := h
 clear h
 replace H := Option.bind_eq_some_iff.mp H
 obtain ⟨⟨t120, t121, t122⟩, A20, H⟩ := H
 replace H : (some (t120, t121, t122)) = some (r1, r2, r3) := H
 have A2 := am A20
 clear A20
 simp only [Option.some.injEq, Prod.mk.injEq] at H
 obtain ⟨rfl, rfl, rfl⟩ := H
 go_enter Try.func119, Try.ntmps119
 go_wp2_with (first | ((with_reducible refine gate_callee (f := 132) rfl ?_); refine goesL_ (some 10) rfl rfl Try.func132 (by kernel_rfl) rfl #[.string a0, .int .i64 0] rfl (by (try simp only [mta, mco, mni]); first | done | rfl | (simp only [lnd, lnt]; rfl)) ?_; (with_reducible refine (spec_l01GetText.calls k a0 0 t120 t121 t122 _ A2.out).mono ?_); rintro e w' ⟨rfl, ⟨nd, rfl⟩⟩; refine ⟨_, rfl, ?_⟩))
 go_ret3
 exact ⟨by first | rfl | (simp; done) | (simp [*]; done), by repeat (first | exact Drawn0.refl _ | apply Drawn0.step)⟩

/-! ### spec_l16Src_str: function 91 -/
def spec_l16Src_str.f (k : Nat) (s0_0 : ByteArray) (s0_1 : Int) (s0_2 : Bool) : Option (ByteArray × ByteArray × Int × Bool) := if 0 ≤ s0_1 then (if s0_1 ≤ (s0_0.size : Int) then ((spec_GetText.f k (s0_0.extract (s0_1 : Int).toNat s0_0.size)).bind fun bt123 => (if bt123.2.2 = true then (some (bt123.1, s0_0, wrap64 (s0_1 + bt123.2.1), s0_2)) else (some ((⟨#[]⟩ : ByteArray), s0_0, s0_1, true)))) else (none)) else (none)
theorem spec_l16Src_str.mono : ∀ a0 a1 a2 k, LeO (spec_l16Src_str.f k a0 a1 a2) (spec_l16Src_str.f (k + 1) a0 a1 a2) := by
 intro a0 a1 a2 k
 unfold spec_l16Src_str.f
 repeat' first
   | (with_reducible exact spec_GetText.mono _ _)
   | (with_reducible exact LeO.refl _)
   | (with_reducible exact LeO.none _)
   | (with_reducible refine LeO.ite ?_ ?_)
   | (with_reducible refine LeO.bind ?_ (fun _ => ?_))
   | exact spec_GetText.mono _ _
   | exact LeO.none _
   | refine LeO.ite ?_ ?_
   | refine LeO.bind ?_ (fun _ => ?_)
set_option maxHeartbeats 8000000 in
set_option maxRecDepth 100000 in
theorem spec_l16Src_str.calls (k : Nat) (g : Nat) (s0_0 : ByteArray) (s0_1 : Int) (s0_2 : Bool) (r1 : ByteArray) (r2 : ByteArray) (r3 : Int) (r4 : Bool) (w0 w : World) (hI : IsS114 w0 w g s0_0 s0_1 s0_2) (hB : Below w0.heap.size w0 w) (h : spec_l16Src_str.f k s0_0 s0_1 s0_2 = some (r1, r2, r3, r4)) :
  Calls Try.prog 91 #[.pointer (some ⟨g, 0, none⟩)] w fun e w' => e = .returned (.string r1) ∧ IsS114 w0 w' g r2 r3 r4 ∧ Below w0.heap.size w0 w' ∧ KeepBut w w' g none := by
 have HI0 := am hI
 have HK := am (KeepBut.refl w g none)
 have HL := am hB.size
 clear hI
 have HW0 := am hB.size
 have HB := am hB
 clear hB
 have H : (if 0 ≤ s0_1 then (if s0_1 ≤ (s0_0.size : Int) then ((spec_GetText.f k (s0_0.extract (s0_1 : Int).toNat s0_0.size)).bind fun bt123 => (if bt123.2.2 = true then (some (bt123.1, s0_0, wrap64 (s0_1 + bt123.2.1), s0_2)) else (some ((⟨#[]⟩ : ByteArray), s0_0, s0_1, true)))) else (none)) else (none)) = some (r1, r2, r3, r4) := h
 clear h
 by_cases c2 : 0 ≤ s0_1
 ·rw [if_pos c2] at H
  have c2b0 := eq_true c2
  have c2b1 : decide (0 ≤ s0_1) = true := decide_eq_true c2
  clear c2
  by_cases c3 : s0_1 ≤ (s0_0.size : Int)
  ·rw [if_pos c3] at H
   have c3b0 := eq_true c3
   have c3b1 : decide (s0_1 ≤ (s0_0.size : Int)) = true := decide_eq_true c3
   clear c3
   replace H := Option.bind_eq_some_iff.mp H
   obtain ⟨⟨t123, t124, t125⟩, A40, H⟩ := H
   replace H : (if t125 = true then (some (t123, s0_0, wrap64 (s0_1 + t124), s0_2)) else (some ((⟨#[]⟩ : ByteArray), s0_0, s0_1, true))) = some (r1, r2, r3, r4) := H
   have A4 := am A40
   clear A40
   by_cases c5 : t125 = true
   ·subst c5
    have H1 : (some (t123, s0_0, wrap64 (s0_1 + t124), s0_2)) = some (r1, r2, r3, r4) := by rw [if_pos rfl] at H; exact H
    clear H
    have H := H1
    clear H1
    simp only [Option.some.injEq, Prod.mk.injEq] at H
    obtain ⟨rfl, rfl, rfl, rfl⟩ := H
    obtain ⟨HGz6, hgz6⟩ := HI0.out
    have hcz6_0 := cellS114_0 HGz6
    have hcz6_1 := cellS114_1 HGz6
    have hcz6_2 := cellS114_2 HGz6
    have hfz6_0 := kfr HGz6 0
    have hfz6_1 := kfr HGz6 1
    have hfz6_2 := kfr HGz6 2
    clear HGz6 hgz6
    go_enter Try.func91, Try.ntmps91
    go_wp2_with (first | (go_at_call 119; (with_reducible refine (spec_GetText.calls k (s0_0.extract (s0_1 : Int).toNat s0_0.size) t123 t124 true _ A4.out).mono ?_); rintro e w' ⟨rfl, ⟨nd, rfl⟩⟩; (try first | exact ⟨rfl, _, World.drewN_drewN _ _ _⟩ | exact ⟨rfl, _, Eq.trans (World.drewN_drewN _ _ _) (congrArg (World.drewN _) (Nat.add_assoc _ _ _))⟩)))
    repeat (go_quiet (first | (go_at_call 119; (with_reducible refine (spec_GetText.calls k (s0_0.extract (s0_1 : Int).toNat s0_0.size) t123 t124 true _ A4.out).mono ?_); rintro e w' ⟨rfl, ⟨nd, rfl⟩⟩; (try first | exact ⟨rfl, _, World.drewN_drewN _ _ _⟩ | exact ⟨rfl, _, Eq.trans (World.drewN_drewN _ _ _) (congrArg (World.drewN _) (Nat.add_assoc _ _ _))⟩))); try go_wp2_with (first | (go_at_call 119; (with_reducible refine (spec_GetText.calls k (s0_0.extract (s0_1 : Int).toNat s0_0.size) t123 t124 true _ A4.out).mono ?_); rintro e w' ⟨rfl, ⟨nd, rfl⟩⟩; (try first | exact ⟨rfl, _, World.drewN_drewN _ _ _⟩ | exact ⟨rfl, _, Eq.trans (World.drewN_drewN _ _ _) (congrArg (World.drewN _) (Nat.add_assoc _ _ _))⟩))))
    go_ret
    exact ⟨by first | rfl | (simp [errW_none, errW_some] <;> rfl) | (simp [*, errW_none, errW_some] <;> rfl), by repeat (first | (with_reducible first | exact HI0.out | apply IsS114.alloc | apply IsS114.drewN | apply IsS114.drew | apply IsS114.set_0 | apply IsS114.set_1 | apply IsS114.set_2) | exact HI0.out), by repeat (first | (with_reducible first | exact HB.out | apply bal | apply pdn | apply bd1 | refine bst ?_ (IsS114.ge HI0.out)) | exact HB.out), by repeat (first | (with_reducible first | exact HK.out | apply KeepBut.set_ | apply keep_drewN | apply keep_drew | apply keep_alloc) | exact HK.out)⟩
   ·replace c5 := Bool.eq_false_iff.mpr c5
    subst c5
    have H1 : (some ((⟨#[]⟩ : ByteArray), s0_0, s0_1, true)) = some (r1, r2, r3, r4) := by rw [if_neg (show ¬ (false = true) by decide)] at H; exact H
    clear H
    have H := H1
    clear H1
    simp only [Option.some.injEq, Prod.mk.injEq] at H
    obtain ⟨rfl, rfl, rfl, rfl⟩ := H
    obtain ⟨HGz7, hgz7⟩ := HI0.out
    have hcz7_0 := cellS114_0 HGz7
    have hcz7_1 := cellS114_1 HGz7
    have hcz7_2 := cellS114_2 HGz7
    have hfz7_0 := kfr HGz7 0
    have hfz7_1 := kfr HGz7 1
    have hfz7_2 := kfr HGz7 2
    clear HGz7 hgz7
    go_enter Try.func91, Try.ntmps91
    go_wp2_with (first | (go_at_call 119; (with_reducible refine (spec_GetText.calls k (s0_0.extract (s0_1 : Int).toNat s0_0.size) t123 t124 false _ A4.out).mono ?_); rintro e w' ⟨rfl, ⟨nd, rfl⟩⟩; (try first | exact ⟨rfl, _, World.drewN_drewN _ _ _⟩ | exact ⟨rfl, _, Eq.trans (World.drewN_drewN _ _ _) (congrArg (World.drewN _) (Nat.add_assoc _ _ _))⟩)))
    repeat (go_quiet (first | (go_at_call 119; (with_reducible refine (spec_GetText.calls k (s0_0.extract (s0_1 : Int).toNat s0_0.size) t123 t124 false _ A4.out).mono ?_); rintro e w' ⟨rfl, ⟨nd, rfl⟩⟩; (try first | exact ⟨rfl, _, World.drewN_drewN _ _ _⟩ | exact ⟨rfl, _, Eq.trans (World.drewN_drewN _ _ _) (congrArg (World.drewN _) (Nat.add_assoc _ _ _))⟩))); try go_wp2_with (first | (go_at_call 119; (with_reducible refine (spec_GetText.calls k (s0_0.extract (s0_1 : Int).toNat s0_0.size) t123 t124 false _ A4.out).mono ?_); rintro e w' ⟨rfl, ⟨nd, rfl⟩⟩; (try first | exact ⟨rfl, _, World.drewN_drewN _ _ _⟩ | exact ⟨rfl, _, Eq.trans (World.drewN_drewN _ _ _) (congrArg (World.drewN _) (Nat.add_assoc _ _ _))⟩))))
    go_ret
    exact ⟨by first | rfl | (simp [errW_none, errW_some] <;> rfl) | (simp [*, errW_none, errW_some] <;> rfl), by repeat (first | (with_reducible first | exact HI0.out | apply IsS114.alloc | apply IsS114.drewN | apply IsS114.drew | apply IsS114.set_0 | apply IsS114.set_1 | apply IsS114.set_2) | exact HI0.out), by repeat (first | (with_reducible first | exact HB.out | apply bal | apply pdn | apply bd1 | refine bst ?_ (IsS114.ge HI0.out)) | exact HB.out), by repeat (first | (with_reducible first | exact HK.out | apply KeepBut.set_ | apply keep_drewN | apply keep_drew | apply keep_alloc) | exact HK.out)⟩
  ·rw [if_neg c3] at H
   exact absurd H (by simp)
 ·rw [if_neg c2] at H
  exact absurd H (by simp)

end Go.Proofs.Ythphhklbliambaa.MFnExactGetOp
