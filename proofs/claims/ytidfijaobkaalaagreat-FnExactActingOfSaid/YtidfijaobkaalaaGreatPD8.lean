/- The texts of this claim, part PD 8: the engine that runs the code on values, the data, the contracts. No condition. -/
import Derived.Test.YtidfijaobkaalaaGreatPD7
import Derived.Shelf.SlicesE.DeleteFunc
import Derived.Shelf.SlicesE.Compact
import Derived.Ground.SlgfProg
import Derived.Ground.SlgnProg
import Derived.Shelf.SortG.Plain
import Derived.Shelf.SortG.SortNone
import Derived.Sort.OwnSortedInts
import Derived.Lib.Walk
import Derived.Lib.SliceRun
import Derived.Shelf.RegionOpenPlain
namespace Go.Ve
open Go.Proofs Go.RowKit
set_option linter.unusedVariables false
set_option linter.unusedSimpArgs false
set_option maxRecDepth 10000
set_option maxHeartbeats 4000000
def bkt0 (o : Option Bkt) (b : Bkt) : Bool := btw b.id (-12) (-1) && btw b.kind 1 3 && decide (b.items.length ≤ 8) && (match o with
  | some y => decide (b.id < y.id)
  | none => true)
def bktsOk (t : Tree) : Bool := chk bkt0 none t.buckets && decide (t.buckets.length ≤ 12)
/-- None twice. -/
def onceL : List Int → List Int → Bool
  | _, [] => true
  | s, x :: l => !has s x && onceL (s ++ [x]) l
def small (t : Tree) : Prop := t.buckets.length ≤ 12 ∧ ∀ b ∈ t.buckets, b.items.length ≤ 8
def treeOk (t : Tree) : Bool := devsOk t && bktsOk t && onceL [] (t.buckets.flatMap (·.items)) && t.buckets.all (fitsOk t)
theorem chk_small {o : Option Bkt} : ∀ {l : List Bkt}, chk bkt0 o l = true → ∀ b ∈ l, b.items.length ≤ 8 := by
  intro l
  induction l generalizing o with
  | nil => intro _ b hb; cases hb
  | cons x l ih =>
    intro h b hb
    simp only [chk, Bool.and_eq_true] at h
    rcases List.mem_cons.1 hb with rfl | hb
    · have := h.1
      simp only [bkt0, Bool.and_eq_true, decide_eq_true_eq] at this
      exact this.1.2
    · exact ih h.2 b hb
@[go_sem] theorem take_map_len {α β : Type} {f : α → β} {l : List α} : (l.map f).take l.length = l.map f := List.take_of_length_le (by simp)
theorem small_of {t : Tree} (h : bktsOk t = true) : small t := by
  simp only [bktsOk, Bool.and_eq_true, decide_eq_true_eq] at h
  exact ⟨h.2, chk_small h.1⟩
def c89 : SCode := (.seq (.reg [⟨(some 1), .box 39 (.tmp 0), none⟩,
   ⟨(some 2), .assign (.const (.bool false)), none⟩])
(.seq (.seq (.reg [⟨(some 5), .fieldAddr 39 (.tmp 1) 0, none⟩,
     ⟨(some 6), .load 36 (.tmp 5), none⟩,
     ⟨(some 7), .call ⟨(.builtin .len), #[(.tmp 6)], #[36]⟩, none⟩,
     ⟨(some 8), .binOp .gtr 3 (.tmp 7) (.const (.int .i64 16)) 3, none⟩])
  (.cond (.tmp 8) (.seq (.reg [⟨(some 2), .assign (.const (.bool false)), none⟩])
    .ret)
   .skip))
 (.seq (.seq (.reg [⟨(some 3), .assign (.const (.int .i64 0)), none⟩])
   (.block 0 (.loop (.seq (.seq (.reg [⟨(some 9), .move (.tmp 3), none⟩,
          ⟨(some 10), .fieldAddr 39 (.tmp 1) 0, none⟩,
          ⟨(some 11), .load 36 (.tmp 10), none⟩,
          ⟨(some 12), .call ⟨(.builtin .len), #[(.tmp 11)], #[36]⟩, none⟩,
          ⟨(some 13), .binOp .lss 3 (.tmp 9) (.tmp 12) 3, none⟩])
       (.cond (.tmp 13) .skip
        (.exit 0)))
      (.seq (.block 1 (.seq (.reg [⟨(some 16), .fieldAddr 39 (.tmp 1) 0, none⟩,
            ⟨(some 17), .load 36 (.tmp 16), none⟩,
            ⟨(some 18), .move (.tmp 3), none⟩,
            ⟨(some 19), .indexAddr 36 (.tmp 17) (.tmp 18), none⟩,
            ⟨(some 20), .load 135 (.tmp 19), none⟩,
            ⟨(some 4), .alloc 135, none⟩,
            ⟨none, .store 135 (.tmp 4) (.tmp 20), none⟩])
         (.seq (.draw [⟨(some 21), .fieldAddr 135 (.tmp 4) 0, none⟩,
             ⟨(some 22), .load 2 (.tmp 21), none⟩,
             ⟨(some 23), .call ⟨(.value (.func 93)), #[(.tmp 22), (.const (.int .i64 0)), (.const (.int .i64 15))], #[2, 2, 2]⟩, none⟩,
             ⟨(some 24), .unOp .not 4 (.tmp 23), none⟩,
             ⟨(some 25), .move (.tmp 24), none⟩,
             ⟨(some 26), .fieldAddr 135 (.tmp 4) 1, (some (25, false))⟩,
             ⟨(some 27), .load 2 (.tmp 26), (some (25, false))⟩,
             ⟨(some 28), .call ⟨(.value (.func 93)), #[(.tmp 27), (.const (.int .i64 0)), (.const (.int .i64 8))], #[2, 2, 2]⟩, (some (25, false))⟩,
             ⟨(some 29), .unOp .not 4 (.tmp 28), (some (25, false))⟩,
             ⟨(some 30), .pick (.tmp 25) (.const (.bool true)) (.tmp 29), none⟩,
             ⟨(some 31), .move (.tmp 30), none⟩,
             ⟨(some 32), .move (.tmp 3), (some (31, false))⟩,
             ⟨(some 33), .binOp .gtr 3 (.tmp 32) (.const (.int .i64 0)) 3, (some (31, false))⟩,
             ⟨(some 34), .move (.tmp 33), (some (31, false))⟩,
             ⟨(some 35), .fieldAddr 135 (.tmp 4) 0, (some (34, true))⟩,
             ⟨(some 36), .load 2 (.tmp 35), (some (34, true))⟩,
             ⟨(some 37), .fieldAddr 39 (.tmp 1) 0, (some (34, true))⟩,
             ⟨(some 38), .load 36 (.tmp 37), (some (34, true))⟩,
             ⟨(some 39), .move (.tmp 3), (some (34, true))⟩,
             ⟨(some 40), .binOp .sub 3 (.tmp 39) (.const (.int .i64 1)) 3, (some (34, true))⟩,
             ⟨(some 41), .indexAddr 36 (.tmp 38) (.tmp 40), (some (34, true))⟩,
             ⟨(some 42), .fieldAddr 135 (.tmp 41) 0, (some (34, true))⟩,
             ⟨(some 43), .load 2 (.tmp 42), (some (34, true))⟩,
             ⟨(some 44), .binOp .leq 2 (.tmp 36) (.tmp 43) 2, (some (34, true))⟩,
             ⟨(some 45), .pick (.tmp 34) (.tmp 44) (.const (.bool false)), (some (31, false))⟩,
             ⟨(some 46), .pick (.tmp 31) (.const (.bool true)) (.tmp 45), none⟩] [[], [0], [0, 1], [0, 1, 2], [0, 1, 2, 3], [0, 1, 2, 3, 4], [0, 1, 2, 3, 4, 5], [0, 1, 2, 3, 4, 5, 6], [0, 1, 2, 3, 4, 5, 6, 7], [0, 1, 2, 3, 4, 5, 6, 7, 8], [0, 1, 2, 3, 4, 5, 6, 7, 8, 9], [0, 1, 2, 3, 4, 5, 6, 7, 8, 9, 10], [0, 1, 2, 3, 4, 5, 6, 7, 8, 9, 10, 11], [0, 1, 2, 3, 4, 5, 6, 7, 8, 9, 10, 11, 12], [0, 1, 2, 3, 4, 5, 6, 7, 8, 9, 10, 11, 12, 13], [0, 1, 2, 3, 4, 5, 6, 7, 8, 9, 10, 11, 12, 13, 14], [0, 1, 2, 3, 4, 5, 6, 7, 8, 9, 10, 11, 12, 13], [0, 1, 2, 3, 4, 5, 6, 7, 8, 9, 10, 11, 12, 13, 16], [0, 1, 2, 3, 4, 5, 6, 7, 8, 9, 10, 11, 12, 13], [0, 1, 2, 3, 4, 5, 6, 7, 8, 9, 10, 11, 12, 13, 18], [0, 1, 2, 3, 4, 5, 6, 7, 8, 9, 10, 11, 12, 13, 16, 17, 18, 19], [0, 1, 2, 3, 4, 5, 6, 7, 8, 9, 10, 11, 12, 13, 16, 17, 18, 19, 20], [0, 1, 2, 3, 4, 5, 6, 7, 8, 9, 10, 11, 12, 13, 16, 17, 18, 19, 20, 21], [0, 1, 2, 3, 4, 5, 6, 7, 8, 9, 10, 11, 12, 13, 14, 15, 16, 17, 18, 19, 20, 21, 22], [0, 1, 2, 3, 4, 5, 6, 7, 8, 9, 10, 11, 12, 13, 14, 15, 16, 17, 18, 19, 20, 21, 22, 23], [0, 1, 2, 3, 4, 5, 6, 7, 8, 9, 10, 11, 12, 13, 14, 15, 16, 17, 18, 19, 20, 21, 22, 23, 24]])
          (.cond (.tmp 46) (.seq (.reg [⟨(some 2), .assign (.const (.bool false)), none⟩])
            .ret)
           .skip))))
       (.reg [⟨(some 14), .move (.tmp 3), none⟩,
          ⟨(some 15), .binOp .add 3 (.tmp 14) (.const (.int .i64 1)) 3, none⟩,
          ⟨(some 3), .assign (.tmp 15), none⟩]))))))
  (.seq (.reg [⟨(some 2), .assign (.const (.bool true)), none⟩])
   .ret))))
theorem s89 : slimF Tryz.f89 = some (c89, [.t 2], 47) := by kernel_rfl
theorem o89 : okF [(93, g93)] Tryz.f89 = true := by kernel_rfl
noncomputable def g89 : Fsem := sem1 enTree (fun t => True) (fun n t => .bool (devsOk t))
@[go_sem] theorem g89_eq {n τ : Nat} {t : Tree} : g89 n [.agg [.sl τ 2 (t.devices.map (enDev.av τ)), .sl τ 3 (t.buckets.map (enBkt.av τ))]] = ⟨True, .bool (devsOk t)⟩ := sem1_eq  (E := enTree)
theorem p89 : Pure Tryz.prog 89 g89 := by
  refine sem1_pure fun τ t n h2 hpre => ?_
  have hT : Table Tryz.prog [(93, g93)] := (.cons p93 .nil)
  have hn0 : n ≠ 0 := by omega
  refine SatP.of_body hT hm Tryz.func89 s89 o89 h2 (by simp) ?_
  simp only [devsOk]
  generalize hr : chk devOk none t.devices = r
  simp (config := {contextual := true, maxSteps := 2000000, implicitDefEqProofs := false}) [c89, go_sem]
  intro hL
  refine ⟨fun h => by grind, fun h => ?_⟩
  refine VW_listKe [] [1] hT h2 hm t.devices [1] (fun pre post (u0 : Unit) => [(3, .int .i64 pre.length)]) (fun pre post (u0 : Unit) => chk devOk pre.getLast? post = r) () ?_ ?_ ?_ ?_
  · exact hr
  · simp [SubE, SubR, go_sem]
  · rintro u0 hR
    simp (config := {contextual := true, maxSteps := 2000000, implicitDefEqProofs := false}) [go_sem]
    simp [chk] at hR; grind
  · rintro pre x post u0 hl hlen hR
    have hw : pre.length + (post.length + 1) ≤ maxLen → IntKind.i64.wrap ((pre.length : Int) + 1) = (pre.length : Int) + 1 := fun h => wrap_next h (by omega)
    have h3 : (0 : Int) ≤ pre.length := by omega
    have h4 : (pre.length : Int) < (pre.length : Int) + ((post.length : Int) + 1) := by omega
    have h5 : ¬ (pre.length : Int) + ((post.length : Int) + 1) ≤ (pre.length : Int) := by omega
    rcases List.eq_nil_or_concat pre with rfl | ⟨q, y, rfl⟩
    · have hw0 : IntKind.i64.wrap 1 = 1 := by decide
      simp only [chk, List.getLast?_nil, devOk, btw] at hR
      simp (config := {contextual := true, maxSteps := 2000000, implicitDefEqProofs := false}) [go_sem, hw0, ← hl, SubE, SubR, devOk, btw] <;> grind
    · have h6 : q.length + (post.length + 1 + 1) ≤ maxLen → IntKind.i64.wrap ((q.length : Int) + 1 + 1) = (q.length : Int) + 1 + 1 := fun h => wrap_ok (by omega) (by simp only [maxLen] at h; omega)
      have h7 : q.length + (post.length + 1 + 1) ≤ maxLen → IntKind.i64.wrap (q.length : Int) = (q.length : Int) := fun h => wrap_ok (by omega) (by simp only [maxLen] at h; omega)
      have h8 : (0 : Int) ≤ (q.length : Int) + 1 := by omega
      have h9 : (0 : Int) < (q.length : Int) + 1 := by omega
      have h10 : (0 : Int) ≤ (q.length : Int) := by omega
      have h11 : (q.length : Int) + 1 < (q.length : Int) + ((post.length : Int) + 1 + 1) := by omega
      have h12 : (q.length : Int) < (q.length : Int) + ((post.length : Int) + 1 + 1) := by omega
      simp only [chk, last_concat, devOk, btw] at hR
      simp (config := {contextual := true, maxSteps := 2000000, implicitDefEqProofs := false}) [go_sem, h6, h7, h8, h9, h10, h11, h12, ← hl, SubE, SubR, devOk, btw] <;> grind
def c90 : SCode := (.seq (.reg [⟨(some 1), .box 39 (.tmp 0), none⟩,
   ⟨(some 2), .assign (.const (.bool false)), none⟩])
(.seq (.seq (.reg [⟨(some 5), .fieldAddr 39 (.tmp 1) 1, none⟩,
     ⟨(some 6), .load 37 (.tmp 5), none⟩,
     ⟨(some 7), .call ⟨(.builtin .len), #[(.tmp 6)], #[37]⟩, none⟩,
     ⟨(some 8), .binOp .gtr 3 (.tmp 7) (.const (.int .i64 12)) 3, none⟩])
  (.cond (.tmp 8) (.seq (.reg [⟨(some 2), .assign (.const (.bool false)), none⟩])
    .ret)
   .skip))
 (.seq (.seq (.reg [⟨(some 3), .assign (.const (.int .i64 0)), none⟩])
   (.block 0 (.loop (.seq (.seq (.reg [⟨(some 9), .move (.tmp 3), none⟩,
          ⟨(some 10), .fieldAddr 39 (.tmp 1) 1, none⟩,
          ⟨(some 11), .load 37 (.tmp 10), none⟩,
          ⟨(some 12), .call ⟨(.builtin .len), #[(.tmp 11)], #[37]⟩, none⟩,
          ⟨(some 13), .binOp .lss 3 (.tmp 9) (.tmp 12) 3, none⟩])
       (.cond (.tmp 13) .skip
        (.exit 0)))
      (.seq (.block 1 (.seq (.reg [⟨(some 16), .fieldAddr 39 (.tmp 1) 1, none⟩,
            ⟨(some 17), .load 37 (.tmp 16), none⟩,
            ⟨(some 18), .move (.tmp 3), none⟩,
            ⟨(some 19), .indexAddr 37 (.tmp 17) (.tmp 18), none⟩,
            ⟨(some 20), .load 125 (.tmp 19), none⟩,
            ⟨(some 4), .alloc 125, none⟩,
            ⟨none, .store 125 (.tmp 4) (.tmp 20), none⟩])
         (.seq (.draw [⟨(some 21), .fieldAddr 125 (.tmp 4) 0, none⟩,
             ⟨(some 22), .load 2 (.tmp 21), none⟩,
             ⟨(some 23), .call ⟨(.value (.func 93)), #[(.tmp 22), (.const (.int .i64 (-12))), (.const (.int .i64 (-1)))], #[2, 2, 2]⟩, none⟩,
             ⟨(some 24), .unOp .not 4 (.tmp 23), none⟩,
             ⟨(some 25), .move (.tmp 24), none⟩,
             ⟨(some 26), .fieldAddr 125 (.tmp 4) 1, (some (25, false))⟩,
             ⟨(some 27), .load 2 (.tmp 26), (some (25, false))⟩,
             ⟨(some 28), .call ⟨(.value (.func 93)), #[(.tmp 27), (.const (.int .i64 1)), (.const (.int .i64 3))], #[2, 2, 2]⟩, (some (25, false))⟩,
             ⟨(some 29), .unOp .not 4 (.tmp 28), (some (25, false))⟩,
             ⟨(some 30), .pick (.tmp 25) (.const (.bool true)) (.tmp 29), none⟩,
             ⟨(some 31), .move (.tmp 30), none⟩,
             ⟨(some 32), .fieldAddr 125 (.tmp 4) 2, (some (31, false))⟩,
             ⟨(some 33), .load 28 (.tmp 32), (some (31, false))⟩,
             ⟨(some 34), .call ⟨(.builtin .len), #[(.tmp 33)], #[28]⟩, (some (31, false))⟩,
             ⟨(some 35), .binOp .gtr 3 (.tmp 34) (.const (.int .i64 8)) 3, (some (31, false))⟩,
             ⟨(some 36), .pick (.tmp 31) (.const (.bool true)) (.tmp 35), none⟩,
             ⟨(some 37), .move (.tmp 36), none⟩,
             ⟨(some 38), .move (.tmp 3), (some (37, false))⟩,
             ⟨(some 39), .binOp .gtr 3 (.tmp 38) (.const (.int .i64 0)) 3, (some (37, false))⟩,
             ⟨(some 40), .move (.tmp 39), (some (37, false))⟩,
             ⟨(some 41), .fieldAddr 125 (.tmp 4) 0, (some (40, true))⟩,
             ⟨(some 42), .load 2 (.tmp 41), (some (40, true))⟩,
             ⟨(some 43), .fieldAddr 39 (.tmp 1) 1, (some (40, true))⟩,
             ⟨(some 44), .load 37 (.tmp 43), (some (40, true))⟩,
             ⟨(some 45), .move (.tmp 3), (some (40, true))⟩,
             ⟨(some 46), .binOp .sub 3 (.tmp 45) (.const (.int .i64 1)) 3, (some (40, true))⟩,
             ⟨(some 47), .indexAddr 37 (.tmp 44) (.tmp 46), (some (40, true))⟩,
             ⟨(some 48), .fieldAddr 125 (.tmp 47) 0, (some (40, true))⟩,
             ⟨(some 49), .load 2 (.tmp 48), (some (40, true))⟩,
             ⟨(some 50), .binOp .geq 2 (.tmp 42) (.tmp 49) 2, (some (40, true))⟩,
             ⟨(some 51), .pick (.tmp 40) (.tmp 50) (.const (.bool false)), (some (37, false))⟩,
             ⟨(some 52), .pick (.tmp 37) (.const (.bool true)) (.tmp 51), none⟩] [[], [0], [0, 1], [0, 1, 2], [0, 1, 2, 3], [0, 1, 2, 3, 4], [0, 1, 2, 3, 4, 5], [0, 1, 2, 3, 4, 5, 6], [0, 1, 2, 3, 4, 5, 6, 7], [0, 1, 2, 3, 4, 5, 6, 7, 8], [0, 1, 2, 3, 4, 5, 6, 7, 8, 9], [0, 1, 2, 3, 4, 5, 6, 7, 8, 9, 10], [0, 1, 2, 3, 4, 5, 6, 7, 8, 9, 10, 11], [0, 1, 2, 3, 4, 5, 6, 7, 8, 9, 10, 11, 12], [0, 1, 2, 3, 4, 5, 6, 7, 8, 9, 10, 11, 12, 13], [0, 1, 2, 3, 4, 5, 6, 7, 8, 9, 10, 11, 12, 13, 14], [0, 1, 2, 3, 4, 5, 6, 7, 8, 9, 10, 11, 12, 13, 14, 15], [0, 1, 2, 3, 4, 5, 6, 7, 8, 9, 10, 11, 12, 13, 14, 15, 16], [0, 1, 2, 3, 4, 5, 6, 7, 8, 9, 10, 11, 12, 13, 14, 15, 16, 17], [0, 1, 2, 3, 4, 5, 6, 7, 8, 9, 10, 11, 12, 13, 14, 15, 16, 17, 18], [0, 1, 2, 3, 4, 5, 6, 7, 8, 9, 10, 11, 12, 13, 14, 15, 16, 17, 18, 19], [0, 1, 2, 3, 4, 5, 6, 7, 8, 9, 10, 11, 12, 13, 14, 15, 16, 17, 18, 19, 20], [0, 1, 2, 3, 4, 5, 6, 7, 8, 9, 10, 11, 12, 13, 14, 15, 16, 17, 18, 19], [0, 1, 2, 3, 4, 5, 6, 7, 8, 9, 10, 11, 12, 13, 14, 15, 16, 17, 18, 19, 22], [0, 1, 2, 3, 4, 5, 6, 7, 8, 9, 10, 11, 12, 13, 14, 15, 16, 17, 18, 19], [0, 1, 2, 3, 4, 5, 6, 7, 8, 9, 10, 11, 12, 13, 14, 15, 16, 17, 18, 19, 24], [0, 1, 2, 3, 4, 5, 6, 7, 8, 9, 10, 11, 12, 13, 14, 15, 16, 17, 18, 19, 22, 23, 24, 25], [0, 1, 2, 3, 4, 5, 6, 7, 8, 9, 10, 11, 12, 13, 14, 15, 16, 17, 18, 19, 22, 23, 24, 25, 26], [0, 1, 2, 3, 4, 5, 6, 7, 8, 9, 10, 11, 12, 13, 14, 15, 16, 17, 18, 19, 22, 23, 24, 25, 26, 27], [0, 1, 2, 3, 4, 5, 6, 7, 8, 9, 10, 11, 12, 13, 14, 15, 16, 17, 18, 19, 20, 21, 22, 23, 24, 25, 26, 27, 28], [0, 1, 2, 3, 4, 5, 6, 7, 8, 9, 10, 11, 12, 13, 14, 15, 16, 17, 18, 19, 20, 21, 22, 23, 24, 25, 26, 27, 28, 29], [0, 1, 2, 3, 4, 5, 6, 7, 8, 9, 10, 11, 12, 13, 14, 15, 16, 17, 18, 19, 20, 21, 22, 23, 24, 25, 26, 27, 28, 29, 30]])
          (.cond (.tmp 52) (.seq (.reg [⟨(some 2), .assign (.const (.bool false)), none⟩])
            .ret)
           .skip))))
       (.reg [⟨(some 14), .move (.tmp 3), none⟩,
          ⟨(some 15), .binOp .add 3 (.tmp 14) (.const (.int .i64 1)) 3, none⟩,
          ⟨(some 3), .assign (.tmp 15), none⟩]))))))
  (.seq (.reg [⟨(some 2), .assign (.const (.bool true)), none⟩])
   .ret))))
theorem s90 : slimF Tryz.f90 = some (c90, [.t 2], 53) := by kernel_rfl
theorem o90 : okF [(93, g93)] Tryz.f90 = true := by kernel_rfl
noncomputable def g90 : Fsem := sem1 enTree (fun t => True) (fun n t => .bool (bktsOk t))
@[go_sem] theorem g90_eq {n τ : Nat} {t : Tree} : g90 n [.agg [.sl τ 2 (t.devices.map (enDev.av τ)), .sl τ 3 (t.buckets.map (enBkt.av τ))]] = ⟨True, .bool (bktsOk t)⟩ := sem1_eq  (E := enTree)
theorem p90 : Pure Tryz.prog 90 g90 := by
  refine sem1_pure fun τ t n h2 hpre => ?_
  have hT : Table Tryz.prog [(93, g93)] := (.cons p93 .nil)
  have hn0 : n ≠ 0 := by omega
  refine SatP.of_body hT hm Tryz.func90 s90 o90 h2 (by simp) ?_
  simp only [bktsOk]
  generalize hr : chk bkt0 none t.buckets = r
  simp (config := {contextual := true, maxSteps := 2000000, implicitDefEqProofs := false}) [c90, go_sem]
  intro hL
  refine ⟨fun h => by grind, fun h => ?_⟩
  refine VW_listKe [] [1] hT h2 hm t.buckets [1] (fun pre post (u0 : Unit) => [(3, .int .i64 pre.length)]) (fun pre post (u0 : Unit) => chk bkt0 pre.getLast? post = r) () ?_ ?_ ?_ ?_
  · exact hr
  · simp [SubE, SubR, go_sem]
  · rintro u0 hR
    simp (config := {contextual := true, maxSteps := 2000000, implicitDefEqProofs := false}) [go_sem]
    simp [chk] at hR; grind
  · rintro pre x post u0 hl hlen hR
    have hw : pre.length + (post.length + 1) ≤ maxLen → IntKind.i64.wrap ((pre.length : Int) + 1) = (pre.length : Int) + 1 := fun h => wrap_next h (by omega)
    have h3 : (0 : Int) ≤ pre.length := by omega
    have h4 : (pre.length : Int) < (pre.length : Int) + ((post.length : Int) + 1) := by omega
    have h5 : ¬ (pre.length : Int) + ((post.length : Int) + 1) ≤ (pre.length : Int) := by omega
    rcases List.eq_nil_or_concat pre with rfl | ⟨q, y, rfl⟩
    · have hw0 : IntKind.i64.wrap 1 = 1 := by decide
      simp only [chk, List.getLast?_nil, bkt0, btw] at hR
      simp (config := {contextual := true, maxSteps := 2000000, implicitDefEqProofs := false}) [go_sem, hw0, ← hl, SubE, SubR, bkt0, btw] <;> grind
    · have h6 : q.length + (post.length + 1 + 1) ≤ maxLen → IntKind.i64.wrap ((q.length : Int) + 1 + 1) = (q.length : Int) + 1 + 1 := fun h => wrap_ok (by omega) (by simp only [maxLen] at h; omega)
      have h7 : q.length + (post.length + 1 + 1) ≤ maxLen → IntKind.i64.wrap (q.length : Int) = (q.length : Int) := fun h => wrap_ok (by omega) (by simp only [maxLen] at h; omega)
      have h8 : (0 : Int) ≤ (q.length : Int) + 1 := by omega
      have h9 : (0 : Int) < (q.length : Int) + 1 := by omega
      have h10 : (0 : Int) ≤ (q.length : Int) := by omega
      have h11 : (q.length : Int) + 1 < (q.length : Int) + ((post.length : Int) + 1 + 1) := by omega
      have h12 : (q.length : Int) < (q.length : Int) + ((post.length : Int) + 1 + 1) := by omega
      simp only [chk, last_concat, bkt0, btw] at hR
      simp (config := {contextual := true, maxSteps := 2000000, implicitDefEqProofs := false}) [go_sem, h6, h7, h8, h9, h10, h11, h12, ← hl, SubE, SubR, bkt0, btw] <;> grind
def c91 : SCode := (.seq (.reg [⟨(some 1), .box 39 (.tmp 0), none⟩,
   ⟨(some 2), .assign (.const (.bool false)), none⟩])
(.seq (.reg [⟨(some 7), .buildSlice 28 0 #[], none⟩,
    ⟨(some 3), .assign (.tmp 7), none⟩])
 (.seq (.seq (.reg [⟨(some 4), .assign (.const (.int .i64 0)), none⟩])
   (.block 0 (.loop (.seq (.seq (.reg [⟨(some 8), .move (.tmp 4), none⟩,
          ⟨(some 9), .fieldAddr 39 (.tmp 1) 1, none⟩,
          ⟨(some 10), .load 37 (.tmp 9), none⟩,
          ⟨(some 11), .call ⟨(.builtin .len), #[(.tmp 10)], #[37]⟩, none⟩,
          ⟨(some 12), .binOp .lss 3 (.tmp 8) (.tmp 11) 3, none⟩])
       (.cond (.tmp 12) .skip
        (.exit 0)))
      (.seq (.block 1 (.seq (.reg [⟨(some 5), .assign (.const (.int .i64 0)), none⟩])
         (.block 2 (.loop (.seq (.seq (.reg [⟨(some 15), .move (.tmp 5), none⟩,
                ⟨(some 16), .fieldAddr 39 (.tmp 1) 1, none⟩,
                ⟨(some 17), .load 37 (.tmp 16), none⟩,
                ⟨(some 18), .move (.tmp 4), none⟩,
                ⟨(some 19), .indexAddr 37 (.tmp 17) (.tmp 18), none⟩,
                ⟨(some 20), .fieldAddr 125 (.tmp 19) 2, none⟩,
                ⟨(some 21), .load 28 (.tmp 20), none⟩,
                ⟨(some 22), .call ⟨(.builtin .len), #[(.tmp 21)], #[28]⟩, none⟩,
                ⟨(some 23), .binOp .lss 3 (.tmp 15) (.tmp 22) 3, none⟩])
             (.cond (.tmp 23) .skip
              (.exit 2)))
            (.seq (.block 3 (.seq (.reg [⟨(some 26), .fieldAddr 39 (.tmp 1) 1, none⟩,
                  ⟨(some 27), .load 37 (.tmp 26), none⟩,
                  ⟨(some 28), .move (.tmp 4), none⟩,
                  ⟨(some 29), .indexAddr 37 (.tmp 27) (.tmp 28), none⟩,
                  ⟨(some 30), .fieldAddr 125 (.tmp 29) 2, none⟩,
                  ⟨(some 31), .load 28 (.tmp 30), none⟩,
                  ⟨(some 32), .move (.tmp 5), none⟩,
                  ⟨(some 33), .indexAddr 28 (.tmp 31) (.tmp 32), none⟩,
                  ⟨(some 34), .load 2 (.tmp 33), none⟩,
                  ⟨(some 6), .assign (.tmp 34), none⟩])
               (.seq (.seq (.reg [⟨(some 35), .move (.tmp 3), none⟩,
                    ⟨(some 36), .move (.tmp 6), none⟩,
                    ⟨(some 37), .call ⟨(.value (.func 126)), #[(.tmp 35), (.tmp 36)], #[28, 2]⟩, none⟩])
                 (.cond (.tmp 37) (.seq (.reg [⟨(some 2), .assign (.const (.bool false)), none⟩])
                   .ret)
                  .skip))
                (.reg [⟨(some 38), .move (.tmp 3), none⟩,
                   ⟨(some 39), .move (.tmp 6), none⟩,
                   ⟨(some 40), .buildSlice 28 1 #[(0, (.tmp 39))], none⟩,
                   ⟨(some 41), .call ⟨(.builtin .append), #[(.tmp 38), (.tmp 40)], #[28, 28]⟩, none⟩,
                   ⟨(some 3), .assign (.tmp 41), none⟩]))))
             (.reg [⟨(some 24), .move (.tmp 5), none⟩,
                ⟨(some 25), .binOp .add 3 (.tmp 24) (.const (.int .i64 1)) 3, none⟩,
                ⟨(some 5), .assign (.tmp 25), none⟩])))))))
       (.reg [⟨(some 13), .move (.tmp 4), none⟩,
          ⟨(some 14), .binOp .add 3 (.tmp 13) (.const (.int .i64 1)) 3, none⟩,
          ⟨(some 4), .assign (.tmp 14), none⟩]))))))
  (.seq (.reg [⟨(some 2), .assign (.const (.bool true)), none⟩])
   .ret))))
theorem s91 : slimF Tryz.f91 = some (c91, [.t 2], 42) := by kernel_rfl
theorem o91 : okF [(126, g126)] Tryz.f91 = true := by kernel_rfl
noncomputable def g91 : Fsem := sem1 enTree (fun t => small t) (fun n t => .bool (onceL [] (t.buckets.flatMap (·.items))))
@[go_sem] theorem g91_eq {n τ : Nat} {t : Tree} : g91 n [.agg [.sl τ 2 (t.devices.map (enDev.av τ)), .sl τ 3 (t.buckets.map (enBkt.av τ))]] = ⟨small t, .bool (onceL [] (t.buckets.flatMap (·.items)))⟩ := sem1_eq  (E := enTree)
theorem p91 : Pure Tryz.prog 91 g91 := by
  refine sem1_pure fun τ t n h2 hpre => ?_
  have hT : Table Tryz.prog [(126, g126)] := (.cons p126 .nil)
  have hn0 : n ≠ 0 := by omega
  refine SatP.of_body hT hm Tryz.func91 s91 o91 h2 (by simp) ?_
  obtain ⟨hs1, hs2⟩ := hpre
  generalize hr : onceL [] (t.buckets.flatMap (·.items)) = r
  simp (config := {contextual := true, maxSteps := 2000000, implicitDefEqProofs := false}) [c91, go_sem]
  refine VW_listKE [] [1, 3] hT h2 hm t.buckets [1] (fun pre post (sn : List Int) => [.box 39 [.sl τ 2 (t.devices.map (enDev.av τ)), .sl τ 3 (t.buckets.map (enBkt.av τ))], .row 2 1 (sn.map (AV.int .i64))]) (fun pre post (sn : List Int) => [(4, .int .i64 pre.length), (3, .osl 1 1 0 sn.length)]) (fun pre post (sn : List Int) => onceL sn (post.flatMap (·.items)) = r ∧ sn.length ≤ 8 * pre.length) [] ?_ ?_ ?_ ?_
  · exact ⟨hr, by simp⟩
  · simp [SubE, SubR, go_sem]
  · rintro sn ⟨hR, hR2⟩
    simp (config := {contextual := true, maxSteps := 2000000, implicitDefEqProofs := false}) [go_sem]
    simp [onceL] at hR
    grind
  · rintro pre0 x rest sn hl hlen ⟨hR, hR2⟩
    have hw : pre0.length + (rest.length + 1) ≤ maxLen → IntKind.i64.wrap ((pre0.length : Int) + 1) = (pre0.length : Int) + 1 := fun h => wrap_next h (by omega)
    have h3 : (0 : Int) ≤ pre0.length := by omega
    have h4 : (pre0.length : Int) < (pre0.length : Int) + ((rest.length : Int) + 1) := by omega
    have h5 : ¬ (pre0.length : Int) + ((rest.length : Int) + 1) ≤ (pre0.length : Int) := by omega
    have hx : x.items.length ≤ 8 := hs2 x (by rw [← hl]; simp)
    simp (config := {contextual := true, maxSteps := 2000000, implicitDefEqProofs := false}) [go_sem, hw, h3, h4, h5, ← hl]
    intro hLo
    refine VW_listKE [] [1, 3] hT h2 hm x.items [1, 4] (fun pre post (sn : List Int) => [.box 39 [.sl τ 2 (t.devices.map (enDev.av τ)), .sl τ 3 (t.buckets.map (enBkt.av τ))], .row 2 1 (sn.map (AV.int .i64))]) (fun pre post (sn : List Int) => [(5, .int .i64 pre.length), (3, .osl 1 1 0 sn.length)]) (fun pre post (sn : List Int) => onceL sn (post ++ rest.flatMap (·.items)) = r ∧ sn.length ≤ 8 * pre0.length + pre.length) sn ?_ ?_ ?_ ?_
    · exact ⟨by simpa using hR, by simpa using hR2⟩
    · simp [SubE, SubR, go_sem, ← hl]
    · rintro sn ⟨hR, hR2⟩
      have hx2 : x.items.length + 8 * pre0.length ≤ 8 * (pre0.length + 1) := by omega
      simp (config := {contextual := true, maxSteps := 2000000, implicitDefEqProofs := false}) [go_sem, hw, hLo, h3, h4, h5, ← hl, SubE, SubR]
      intro _
      exact ⟨sn, ⟨by simpa using hR, by omega⟩, rfl, rfl⟩
    · rintro pre y post sn hl' hlen' ⟨hR, hR2⟩
      have hw' : pre.length + (post.length + 1) ≤ maxLen → IntKind.i64.wrap ((pre.length : Int) + 1) = (pre.length : Int) + 1 := fun h => wrap_next h (by omega)
      have h3' : (0 : Int) ≤ pre.length := by omega
      have h4' : (pre.length : Int) < (pre.length : Int) + ((post.length : Int) + 1) := by omega
      have h5' : ¬ (pre.length : Int) + ((post.length : Int) + 1) ≤ (pre.length : Int) := by omega
      have hb : sn.length + 1 ≤ 200 := by omega
      simp only [List.cons_append, onceL] at hR
      simp (config := {contextual := true, maxSteps := 2000000, implicitDefEqProofs := false}) [go_sem, hw, h3, h4, h5, hw', h3', h4', h5', ← hl, ← hl', SubE, SubR]
      intro _
      refine ⟨fun h => by rw [h] at hR; simpa using hR.symm, fun h => ⟨by omega, sn ++ [y], ⟨by rw [h] at hR; simpa using hR, by simp; omega⟩, by simp, by simp⟩⟩
end Go.Ve
namespace Go.Ve
open Go.Proofs Go.RowKit
set_option linter.unusedVariables false
set_option linter.unusedSimpArgs false
set_option maxRecDepth 10000
set_option maxHeartbeats 4000000
def c43 : SCode := (.seq (.reg [⟨(some 1), .box 39 (.tmp 0), none⟩,
   ⟨(some 2), .assign (.const (.bool false)), none⟩])
(.seq (.seq (.reg [⟨(some 4), .load 39 (.tmp 1), none⟩,
     ⟨(some 5), .call ⟨(.value (.func 89)), #[(.tmp 4)], #[39]⟩, none⟩,
     ⟨(some 6), .unOp .not 4 (.tmp 5), none⟩,
     ⟨(some 7), .move (.tmp 6), none⟩,
     ⟨(some 8), .load 39 (.tmp 1), (some (7, false))⟩,
     ⟨(some 9), .call ⟨(.value (.func 90)), #[(.tmp 8)], #[39]⟩, (some (7, false))⟩,
     ⟨(some 10), .unOp .not 4 (.tmp 9), (some (7, false))⟩,
     ⟨(some 11), .pick (.tmp 7) (.const (.bool true)) (.tmp 10), none⟩,
     ⟨(some 12), .move (.tmp 11), none⟩,
     ⟨(some 13), .load 39 (.tmp 1), (some (12, false))⟩,
     ⟨(some 14), .call ⟨(.value (.func 91)), #[(.tmp 13)], #[39]⟩, (some (12, false))⟩,
     ⟨(some 15), .unOp .not 4 (.tmp 14), (some (12, false))⟩,
     ⟨(some 16), .pick (.tmp 12) (.const (.bool true)) (.tmp 15), none⟩])
  (.cond (.tmp 16) (.seq (.reg [⟨(some 2), .assign (.const (.bool false)), none⟩])
    .ret)
   .skip))
 (.seq (.seq (.reg [⟨(some 3), .assign (.const (.int .i64 0)), none⟩])
   (.block 0 (.loop (.seq (.seq (.reg [⟨(some 17), .move (.tmp 3), none⟩,
          ⟨(some 18), .fieldAddr 39 (.tmp 1) 1, none⟩,
          ⟨(some 19), .load 37 (.tmp 18), none⟩,
          ⟨(some 20), .call ⟨(.builtin .len), #[(.tmp 19)], #[37]⟩, none⟩,
          ⟨(some 21), .binOp .lss 3 (.tmp 17) (.tmp 20) 3, none⟩])
       (.cond (.tmp 21) .skip
        (.exit 0)))
      (.seq (.block 1 (.seq (.draw [⟨(some 24), .load 39 (.tmp 1), none⟩,
            ⟨(some 25), .fieldAddr 39 (.tmp 1) 1, none⟩,
            ⟨(some 26), .load 37 (.tmp 25), none⟩,
            ⟨(some 27), .move (.tmp 3), none⟩,
            ⟨(some 28), .indexAddr 37 (.tmp 26) (.tmp 27), none⟩,
            ⟨(some 29), .load 125 (.tmp 28), none⟩,
            ⟨(some 30), .call ⟨(.value (.func 92)), #[(.tmp 24), (.tmp 29)], #[39, 125]⟩, none⟩,
            ⟨(some 31), .unOp .not 4 (.tmp 30), none⟩] [[], [], [1], [], [1, 2, 3], [1, 2, 3, 4], [0, 1, 2, 3, 4, 5], [0, 1, 2, 3, 4, 5, 6]])
         (.cond (.tmp 31) (.seq (.reg [⟨(some 2), .assign (.const (.bool false)), none⟩])
           .ret)
          .skip)))
       (.reg [⟨(some 22), .move (.tmp 3), none⟩,
          ⟨(some 23), .binOp .add 3 (.tmp 22) (.const (.int .i64 1)) 3, none⟩,
          ⟨(some 3), .assign (.tmp 23), none⟩]))))))
  (.seq (.reg [⟨(some 2), .assign (.const (.bool true)), none⟩])
   .ret))))
theorem s43 : slimF Tryz.f43 = some (c43, [.t 2], 32) := by kernel_rfl
theorem o43 : okF [(89, g89), (90, g90), (91, g91), (92, g92)] Tryz.f43 = true := by kernel_rfl
noncomputable def g43 : Fsem := sem1 enTree (fun t => True) (fun n t => .bool (treeOk t))
@[go_sem] theorem g43_eq {n τ : Nat} {t : Tree} : g43 n [.agg [.sl τ 2 (t.devices.map (enDev.av τ)), .sl τ 3 (t.buckets.map (enBkt.av τ))]] = ⟨True, .bool (treeOk t)⟩ := sem1_eq  (E := enTree)
theorem p43 : Pure Tryz.prog 43 g43 := by
  refine sem1_pure fun τ t n h2 hpre => ?_
  have hT : Table Tryz.prog [(89, g89), (90, g90), (91, g91), (92, g92)] := (.cons p89 (.cons p90 (.cons p91 (.cons p92 .nil))))
  have hn0 : n ≠ 0 := by omega
  refine SatP.of_body hT hm Tryz.func43 s43 o43 h2 (by simp) ?_
  have hsm : bktsOk t = true → small t := small_of
  simp only [treeOk]
  generalize hr : t.buckets.all (fitsOk t) = r
  simp (config := {contextual := true, maxSteps := 2000000, implicitDefEqProofs := false}) [c43, go_sem, hsm]
  refine ⟨fun h => by grind, fun hq1 hq2 hq3 => ?_⟩
  refine VW_listK hT h2 hm t.buckets [1] (fun pre post (b : Unit) => [(3, .int .i64 pre.length)]) (fun pre post (b : Unit) => post.all (fitsOk t) = r) () ?_ ?_ ?_ ?_
  · exact hr
  · simp [SubI, go_sem]
  · intro _ hR
    simp (config := {contextual := true, maxSteps := 2000000, implicitDefEqProofs := false}) [go_sem]
    simp at hR
    grind
  · intro pre x post _ hl hlen hR
    have hln : t.buckets.length = pre.length + (post.length + 1) := by rw [← hl]; simp
    have hn : nth (List.map (enBkt.av τ) t.buckets) (pre.length) = (enBkt.av τ) x := by rw [← hl]; simp [go_sem]
    have hw : t.buckets.length ≤ maxLen → IntKind.i64.wrap ((pre.length : Int) + 1) = (pre.length : Int) + 1 := fun h => wrap_ok (by omega) (by simp only [maxLen] at h; omega)
    have h3 : (0 : Int) ≤ (pre.length : Int) := by omega
    have h4 : (pre.length : Int) < (t.buckets.length : Int) := by omega
    have h5 : ¬ (t.buckets.length : Int) ≤ (pre.length : Int) := by omega
    simp only [List.all_cons] at hR
    simp (config := {contextual := true, maxSteps := 2000000, implicitDefEqProofs := false}) [go_sem, SubI, hn, hw, h3, h4, h5] <;> grind
def c118 : SCode := (.seq (.reg [⟨(some 1), .box 39 (.tmp 0), none⟩,
   ⟨(some 2), .assign (.const (.bool false)), none⟩])
(.seq (.reg [⟨(some 3), .load 39 (.tmp 1), none⟩,
    ⟨(some 4), .call ⟨(.value (.func 43)), #[(.tmp 3)], #[39]⟩, none⟩,
    ⟨(some 2), .assign (.tmp 4), none⟩])
 .ret))
theorem s118 : slimF Tryz.f118 = some (c118, [.t 2], 5) := by kernel_rfl
theorem o118 : okF [(43, g43)] Tryz.f118 = true := by kernel_rfl
noncomputable def g118 : Fsem := sem1 enTree (fun t => True) (fun n t => .bool (treeOk t))
@[go_sem] theorem g118_eq {n τ : Nat} {t : Tree} : g118 n [.agg [.sl τ 2 (t.devices.map (enDev.av τ)), .sl τ 3 (t.buckets.map (enBkt.av τ))]] = ⟨True, .bool (treeOk t)⟩ := sem1_eq  (E := enTree)
theorem p118 : Pure Tryz.prog 118 g118 := by
  refine sem1_pure fun τ t n h2 hpre => ?_
  have hT : Table Tryz.prog [(43, g43)] := (.cons p43 .nil)
  have hn0 : n ≠ 0 := by omega
  refine SatP.of_body hT hm Tryz.func118 s118 o118 h2 (by simp) ?_
  simp (config := {contextual := true, maxSteps := 2000000, implicitDefEqProofs := false}) [c118, go_sem]
theorem useB_once : ∀ (l : List Int) (acc : List Int) (rest : List Int), onceL acc (l ++ rest) = (useB acc l).elim false (fun a => onceL a rest)
  | [], acc, rest => rfl
  | x :: l, acc, rest => by
    simp only [List.cons_append, onceL, useB]
    by_cases h : x ∈ acc
    · have : has acc x = true := has_iff.2 h
      simp [h, this]
    · have h' : has acc x = false := by
        cases hh : has acc x
        · rfl
        · exact (h (has_iff.1 hh)).elim
      have hi : ins acc x = acc ++ [x] := by simp [ins, h]
      simp only [h, if_false, h', Bool.not_false, Bool.true_and, hi]
      exact useB_once l (acc ++ [x]) rest
theorem mem_kinds {t : Tree} {x : Int} : ∀ {l a : List Int}, x ∈ kinds t l a ↔ x ∈ a ∨ ∃ y ∈ l, kindOf t y = x
  | [], a => by simp [kinds]
  | y :: l, a => by
    have ih := mem_kinds (t := t) (x := x) (l := l) (a := ins a (kindOf t y))
    simp only [kinds, List.foldl_cons] at ih ⊢
    rw [ih, mem_ins]
    simp only [List.mem_cons, exists_eq_or_imp]
    constructor
    · rintro ((h | h) | h)
      · exact .inl h
      · exact .inr (.inl h.symm)
      · exact .inr (.inr h)
    · rintro (h | h | h)
      · exact .inl (.inl h)
      · exact .inl (.inr h.symm)
      · exact .inr h
theorem nodup_kinds {t : Tree} : ∀ {l a : List Int}, a.Nodup → (kinds t l a).Nodup
  | [], a, h => h
  | y :: l, a, h => by
    simp only [kinds, List.foldl_cons]
    refine nodup_kinds ?_
    unfold ins
    split
    · exact h
    · rename_i hn
      exact List.nodup_append.2 ⟨h, by simp, by intro a ha b hb; simp at hb; subst hb; rintro rfl; exact hn ha⟩
theorem items_fits {t : Tree} {b : Bkt} (hk : btw b.kind 1 3 = true) : itemsOk t b = fitsOk t b := by
  have hk' : 1 ≤ b.kind ∧ b.kind ≤ 3 := by simpa [btw] using hk
  have hw : IntKind.i64.wrap (b.kind - 1) = b.kind - 1 := wrap_ok (by omega) (by omega)
  unfold itemsOk fitsOk fitsOne
  rw [hw]
  cases hi : b.items with
  | nil => simp
  | cons x l =>
    have hm : ∀ z, z ∈ kinds t (x :: l) [] ↔ ∃ y ∈ x :: l, kindOf t y = z := fun z => by rw [mem_kinds]; simp
    have hnd : (kinds t (x :: l) []).Nodup := nodup_kinds List.nodup_nil
    have hx : kindOf t x ∈ kinds t (x :: l) [] := (hm _).2 ⟨x, by simp, rfl⟩
    rw [if_neg (by simp)]
    -- one kind alone
    have hone : (kinds t (x :: l) []).length ≤ 1 ↔ ∀ y ∈ x :: l, kindOf t y = kindOf t x := by
      constructor
      · intro h y hy
        have hy' := (hm (kindOf t y)).2 ⟨y, hy, rfl⟩
        match hk : kinds t (x :: l) [], h, hx, hy' with
        | [z], _, hx, hy' => simp at hx hy'; omega
      · intro h
        have hall : ∀ z ∈ kinds t (x :: l) [], z = kindOf t x := fun z hz => by
          obtain ⟨y, hy, rfl⟩ := (hm z).1 hz
          exact h y hy
        match hk : kinds t (x :: l) [], hnd, hall with
        | [], _, _ => simp
        | [z], _, _ => simp
        | z :: z' :: r, hnd, hall =>
          have h1 := hall z (by simp)
          have h2 := hall z' (by simp)
          rw [h1, h2] at hnd
          simp at hnd
    rw [Bool.eq_iff_iff]
    by_cases h1 : 1 < (kinds t (x :: l) []).length
    · rw [if_pos h1]
      simp only [Bool.false_eq_true, false_iff]
      intro h
      have : ¬ ∀ y ∈ x :: l, kindOf t y = kindOf t x := fun h' => by have := hone.2 h'; omega
      apply this
      intro y hy
      have h2 := List.all_eq_true.1 h y hy
      have h3 := List.all_eq_true.1 h x (by simp)
      simp only [List.headD_cons] at h2 h3
      simp at h2 h3
      grind
    · rw [if_neg h1]
      have hsame := hone.1 (by omega)
      have hmem : ∀ z, z ∈ kinds t (x :: l) [] ↔ kindOf t x = z := fun z => by
        rw [hm]
        constructor
        · rintro ⟨y, hy, rfl⟩
          exact (hsame y hy).symm
        · intro h
          exact ⟨x, by simp, h⟩
      rw [List.all_eq_true]
      by_cases h3 : b.kind = 3
      · rw [if_pos h3]
        simp only [hmem, Bool.or_eq_true, decide_eq_true_eq]
        constructor
        · intro h y hy
          have := hsame y hy
          simp [h3]
          grind
        · intro h
          have := h x (by simp)
          simp [h3] at this
          grind
      · rw [if_neg h3]
        simp only [hmem, decide_eq_true_eq]
        constructor
        · intro h y hy
          have := hsame y hy
          simp
          grind
        · intro h
          have := h x (by simp)
          simp at this
          grind
theorem treeL_eq {t : Tree} : ∀ (l : List Bkt) (o : Option Bkt) (acc : List Int), treeL t o acc l = (chk bkt0 o l && onceL acc (l.flatMap (·.items)) && l.all (fitsOk t))
  | [], o, acc => rfl
  | b :: l, o, acc => by
    simp only [treeL, chk, List.flatMap_cons, List.all_cons, useB_once]
    have ih := fun a => treeL_eq (t := t) l (some b) a
    have hb : bktOk t o b = (bkt0 o b && fitsOk t b) := by
      unfold bktOk bkt0
      cases hk : btw b.kind 1 3
      · simp
      · rw [items_fits hk]
        ac_rfl
    rw [hb]
    cases useB acc b.items with
    | none => simp
    | some a =>
      simp only [ih, Option.elim_some]
      ac_rfl
theorem treeOkI_eq (t : Tree) : treeOkI t = treeOk t := by
  unfold treeOkI treeOk bktsOk
  rw [treeL_eq]
  ac_rfl
def c105 : SCode := (.seq (.reg [⟨(some 1), .box 39 (.tmp 0), none⟩,
   ⟨(some 2), .assign (.const (.bool false)), none⟩])
(.seq (.seq (.reg [⟨(some 8), .load 39 (.tmp 1), none⟩,
     ⟨(some 9), .call ⟨(.value (.func 156)), #[(.tmp 8)], #[39]⟩, none⟩,
     ⟨(some 10), .unOp .not 4 (.tmp 9), none⟩,
     ⟨(some 11), .move (.tmp 10), none⟩,
     ⟨(some 12), .fieldAddr 39 (.tmp 1) 1, (some (11, false))⟩,
     ⟨(some 13), .load 37 (.tmp 12), (some (11, false))⟩,
     ⟨(some 14), .call ⟨(.builtin .len), #[(.tmp 13)], #[37]⟩, (some (11, false))⟩,
     ⟨(some 15), .binOp .gtr 3 (.tmp 14) (.const (.int .i64 12)) 3, (some (11, false))⟩,
     ⟨(some 16), .pick (.tmp 11) (.const (.bool true)) (.tmp 15), none⟩])
  (.cond (.tmp 16) (.seq (.reg [⟨(some 2), .assign (.const (.bool false)), none⟩])
    .ret)
   .skip))
 (.seq (.reg [⟨(some 17), .makeMap 142 none, none⟩,
     ⟨(some 3), .assign (.tmp 17), none⟩])
  (.seq (.seq (.reg [⟨(some 18), .fieldAddr 39 (.tmp 1) 1, none⟩,
       ⟨(some 19), .load 37 (.tmp 18), none⟩,
       ⟨(some 20), .call ⟨(.builtin .len), #[(.tmp 19)], #[37]⟩, none⟩,
       ⟨(some 21), .move (.const (.int .i64 0)), none⟩])
    (.block 0 (.loop (.seq (.reg [⟨(some 22), .binOp .lss 3 (.tmp 21) (.tmp 20) 3, none⟩])
       (.seq (.cond (.tmp 22) .skip
         (.exit 0))
        (.seq (.block 1 (.seq (.reg [⟨(some 23), .move (.tmp 21), none⟩,
              ⟨(some 24), .indexAddr 37 (.tmp 19) (.tmp 21), none⟩,
              ⟨(some 25), .load 125 (.tmp 24), none⟩,
              ⟨(some 5), .alloc 125, none⟩,
              ⟨(some 4), .assign (.tmp 23), none⟩,
              ⟨none, .store 125 (.tmp 5) (.tmp 25), none⟩])
           (.seq (.seq (.draw [⟨(some 26), .fieldAddr 125 (.tmp 5) 0, none⟩,
                ⟨(some 27), .load 2 (.tmp 26), none⟩,
                ⟨(some 28), .call ⟨(.value (.func 82)), #[(.tmp 27), (.const (.int .i64 (-12))), (.const (.int .i64 (-1)))], #[2, 2, 2]⟩, none⟩,
                ⟨(some 29), .unOp .not 4 (.tmp 28), none⟩,
                ⟨(some 30), .move (.tmp 29), none⟩,
                ⟨(some 31), .move (.tmp 4), (some (30, false))⟩,
                ⟨(some 32), .binOp .gtr 3 (.tmp 31) (.const (.int .i64 0)) 3, (some (30, false))⟩,
                ⟨(some 33), .move (.tmp 32), (some (30, false))⟩,
                ⟨(some 34), .fieldAddr 125 (.tmp 5) 0, (some (33, true))⟩,
                ⟨(some 35), .load 2 (.tmp 34), (some (33, true))⟩,
                ⟨(some 36), .fieldAddr 39 (.tmp 1) 1, (some (33, true))⟩,
                ⟨(some 37), .load 37 (.tmp 36), (some (33, true))⟩,
                ⟨(some 38), .move (.tmp 4), (some (33, true))⟩,
                ⟨(some 39), .binOp .sub 3 (.tmp 38) (.const (.int .i64 1)) 3, (some (33, true))⟩,
                ⟨(some 40), .indexAddr 37 (.tmp 37) (.tmp 39), (some (33, true))⟩,
                ⟨(some 41), .fieldAddr 125 (.tmp 40) 0, (some (33, true))⟩,
                ⟨(some 42), .load 2 (.tmp 41), (some (33, true))⟩,
                ⟨(some 43), .binOp .geq 2 (.tmp 35) (.tmp 42) 2, (some (33, true))⟩,
                ⟨(some 44), .pick (.tmp 33) (.tmp 43) (.const (.bool false)), (some (30, false))⟩,
                ⟨(some 45), .pick (.tmp 30) (.const (.bool true)) (.tmp 44), none⟩,
                ⟨(some 46), .move (.tmp 45), none⟩,
                ⟨(some 47), .fieldAddr 125 (.tmp 5) 1, (some (46, false))⟩,
                ⟨(some 48), .load 2 (.tmp 47), (some (46, false))⟩,
                ⟨(some 49), .call ⟨(.value (.func 82)), #[(.tmp 48), (.const (.int .i64 1)), (.const (.int .i64 3))], #[2, 2, 2]⟩, (some (46, false))⟩,
                ⟨(some 50), .unOp .not 4 (.tmp 49), (some (46, false))⟩,
                ⟨(some 51), .pick (.tmp 46) (.const (.bool true)) (.tmp 50), none⟩,
                ⟨(some 52), .move (.tmp 51), none⟩,
                ⟨(some 53), .fieldAddr 125 (.tmp 5) 2, (some (52, false))⟩,
                ⟨(some 54), .load 28 (.tmp 53), (some (52, false))⟩,
                ⟨(some 55), .call ⟨(.builtin .len), #[(.tmp 54)], #[28]⟩, (some (52, false))⟩,
                ⟨(some 56), .binOp .gtr 3 (.tmp 55) (.const (.int .i64 8)) 3, (some (52, false))⟩,
                ⟨(some 57), .pick (.tmp 52) (.const (.bool true)) (.tmp 56), none⟩,
                ⟨(some 58), .move (.tmp 57), none⟩,
                ⟨(some 59), .load 39 (.tmp 1), (some (58, false))⟩,
                ⟨(some 60), .load 125 (.tmp 5), (some (58, false))⟩,
                ⟨(some 61), .call ⟨(.value (.func 157)), #[(.tmp 59), (.tmp 60)], #[39, 125]⟩, (some (58, false))⟩,
                ⟨(some 62), .unOp .not 4 (.tmp 61), (some (58, false))⟩,
                ⟨(some 63), .pick (.tmp 58) (.const (.bool true)) (.tmp 62), none⟩] [[], [0], [0, 1], [0, 1, 2], [0, 1, 2, 3], [0, 1, 2, 3, 4], [0, 1, 2, 3, 4, 5], [0, 1, 2, 3, 4, 5, 6], [0, 1, 2, 3, 4, 5, 6, 7], [0, 1, 2, 3, 4, 5, 6, 7, 8], [0, 1, 2, 3, 4, 5, 6, 7], [0, 1, 2, 3, 4, 5, 6, 7, 10], [0, 1, 2, 3, 4, 5, 6, 7], [0, 1, 2, 3, 4, 5, 6, 7, 12], [0, 1, 2, 3, 4, 5, 6, 7, 10, 11, 12, 13], [0, 1, 2, 3, 4, 5, 6, 7, 10, 11, 12, 13, 14], [0, 1, 2, 3, 4, 5, 6, 7, 10, 11, 12, 13, 14, 15], [0, 1, 2, 3, 4, 5, 6, 7, 8, 9, 10, 11, 12, 13, 14, 15, 16], [0, 1, 2, 3, 4, 5, 6, 7, 8, 9, 10, 11, 12, 13, 14, 15, 16, 17], [0, 1, 2, 3, 4, 5, 6, 7, 8, 9, 10, 11, 12, 13, 14, 15, 16, 17, 18], [0, 1, 2, 3, 4, 5, 6, 7, 8, 9, 10, 11, 12, 13, 14, 15, 16, 17, 18, 19], [0, 1, 2, 3, 4, 5, 6, 7, 8, 9, 10, 11, 12, 13, 14, 15, 16, 17, 18, 19, 20], [0, 1, 2, 3, 4, 5, 6, 7, 8, 9, 10, 11, 12, 13, 14, 15, 16, 17, 18, 19, 20, 21], [0, 1, 2, 3, 4, 5, 6, 7, 8, 9, 10, 11, 12, 13, 14, 15, 16, 17, 18, 19, 20, 21, 22], [0, 1, 2, 3, 4, 5, 6, 7, 8, 9, 10, 11, 12, 13, 14, 15, 16, 17, 18, 19, 20, 21, 22, 23], [0, 1, 2, 3, 4, 5, 6, 7, 8, 9, 10, 11, 12, 13, 14, 15, 16, 17, 18, 19, 20, 21, 22, 23, 24], [0, 1, 2, 3, 4, 5, 6, 7, 8, 9, 10, 11, 12, 13, 14, 15, 16, 17, 18, 19, 20, 21, 22, 23, 24, 25], [0, 1, 2, 3, 4, 5, 6, 7, 8, 9, 10, 11, 12, 13, 14, 15, 16, 17, 18, 19, 20, 21, 22, 23, 24, 25, 26], [0, 1, 2, 3, 4, 5, 6, 7, 8, 9, 10, 11, 12, 13, 14, 15, 16, 17, 18, 19, 20, 21, 22, 23, 24, 25, 26, 27], [0, 1, 2, 3, 4, 5, 6, 7, 8, 9, 10, 11, 12, 13, 14, 15, 16, 17, 18, 19, 20, 21, 22, 23, 24, 25, 26, 27, 28], [0, 1, 2, 3, 4, 5, 6, 7, 8, 9, 10, 11, 12, 13, 14, 15, 16, 17, 18, 19, 20, 21, 22, 23, 24, 25, 26, 27, 28, 29], [0, 1, 2, 3, 4, 5, 6, 7, 8, 9, 10, 11, 12, 13, 14, 15, 16, 17, 18, 19, 20, 21, 22, 23, 24, 25, 26, 27, 28, 29, 30], [0, 1, 2, 3, 4, 5, 6, 7, 8, 9, 10, 11, 12, 13, 14, 15, 16, 17, 18, 19, 20, 21, 22, 23, 24, 25, 26, 27, 28, 29, 30, 31], [0, 1, 2, 3, 4, 5, 6, 7, 8, 9, 10, 11, 12, 13, 14, 15, 16, 17, 18, 19, 20, 21, 22, 23, 24, 25, 26, 27, 28, 29, 30, 31, 32], [0, 1, 2, 3, 4, 5, 6, 7, 8, 9, 10, 11, 12, 13, 14, 15, 16, 17, 18, 19, 20, 21, 22, 23, 24, 25, 26, 27, 28, 29, 30, 31, 32], [0, 1, 2, 3, 4, 5, 6, 7, 8, 9, 10, 11, 12, 13, 14, 15, 16, 17, 18, 19, 20, 21, 22, 23, 24, 25, 26, 27, 28, 29, 30, 31, 32, 33, 34], [0, 1, 2, 3, 4, 5, 6, 7, 8, 9, 10, 11, 12, 13, 14, 15, 16, 17, 18, 19, 20, 21, 22, 23, 24, 25, 26, 27, 28, 29, 30, 31, 32, 33, 34, 35], [0, 1, 2, 3, 4, 5, 6, 7, 8, 9, 10, 11, 12, 13, 14, 15, 16, 17, 18, 19, 20, 21, 22, 23, 24, 25, 26, 27, 28, 29, 30, 31, 32, 33, 34, 35, 36]])
             (.cond (.tmp 63) (.seq (.reg [⟨(some 2), .assign (.const (.bool false)), none⟩])
               .ret)
              .skip))
            (.seq (.reg [⟨(some 64), .fieldAddr 125 (.tmp 5) 2, none⟩,
                ⟨(some 65), .load 28 (.tmp 64), none⟩,
                ⟨(some 66), .call ⟨(.builtin .len), #[(.tmp 65)], #[28]⟩, none⟩,
                ⟨(some 67), .move (.const (.int .i64 0)), none⟩])
             (.block 2 (.loop (.seq (.reg [⟨(some 68), .binOp .lss 3 (.tmp 67) (.tmp 66) 3, none⟩])
                (.seq (.cond (.tmp 68) .skip
                  (.exit 2))
                 (.seq (.block 3 (.seq (.reg [⟨(some 69), .indexAddr 28 (.tmp 65) (.tmp 67), none⟩,
                       ⟨(some 70), .load 2 (.tmp 69), none⟩,
                       ⟨(some 7), .assign (.tmp 70), none⟩])
                    (.seq (.seq (.reg [⟨(some 71), .move (.tmp 3), none⟩,
                         ⟨(some 72), .move (.tmp 7), none⟩,
                         ⟨(some 73), .lookup 142 (.tmp 71) (.tmp 72) false, none⟩])
                      (.cond (.tmp 73) (.seq (.reg [⟨(some 2), .assign (.const (.bool false)), none⟩])
                        .ret)
                       .skip))
                     (.reg [⟨(some 74), .move (.tmp 3), none⟩,
                        ⟨(some 75), .move (.tmp 7), none⟩,
                        ⟨none, .mapUpdate 142 (.tmp 74) (.tmp 75) (.const (.bool true)), none⟩]))))
                  (.reg [⟨(some 76), .binOp .add 3 (.tmp 67) (.const (.int .i64 1)) 3, none⟩,
                     ⟨(some 67), .move (.tmp 76), none⟩]))))))))))
         (.reg [⟨(some 77), .binOp .add 3 (.tmp 21) (.const (.int .i64 1)) 3, none⟩,
            ⟨(some 21), .move (.tmp 77), none⟩])))))))
   (.seq (.reg [⟨(some 2), .assign (.const (.bool true)), none⟩])
    .ret)))))
theorem s105 : slimF Tryz.f105 = some (c105, [.t 2], 78) := by kernel_rfl
theorem o105 : okF [(156, g156), (82, g82), (157, g157)] Tryz.f105 = true := by kernel_rfl
noncomputable def g105 : Fsem := semT1 enTree (fun τ t => τ ≠ 0) (fun n τ t => .bool (treeOk t))
@[go_sem] theorem g105_eq {n τ : Nat} {t : Tree} : g105 n [.agg [.sl τ 2 (t.devices.map (enDev.av τ)), .sl τ 3 (t.buckets.map (enBkt.av τ))]] = ⟨τ ≠ 0, .bool (treeOk t)⟩ := semT1_eq  (E := enTree) (seen_Tree)
theorem p105 : Pure Tryz.prog 105 g105 := by
  refine semT1_pure fun τ t n h2 hpre => ?_
  have hT : Table Tryz.prog [(156, g156), (82, g82), (157, g157)] := (.cons p156 (.cons p82 (.cons p157 .nil)))
  have hn0 : n ≠ 0 := by omega
  refine SatP.of_body hT hm Tryz.func105 s105 o105 h2 (by simp) ?_
  have hp : τ ≠ 0 := hpre
  rw [← treeOkI_eq]
  simp only [treeOkI]
  generalize hr : treeL t none [] t.buckets = r
  simp (config := {contextual := true, maxSteps := 2000000, implicitDefEqProofs := false}) [c105, go_sem]
  refine ⟨fun h => by grind, ?_⟩
  intros
  rename_i hd1 hd2 hL
  refine VW_listKE [] [1, 3] hT h2 hm t.buckets [1, 3, 19, 20] (fun pre post (acc : List Int) => [.box 39 [.sl τ 2 (t.devices.map (enDev.av τ)), .sl τ 3 (t.buckets.map (enBkt.av τ))], .mp (kvs acc)]) (fun pre post (acc : List Int) => [(21, .int .i64 pre.length)]) (fun pre post (acc : List Int) => treeL t pre.getLast? acc post = r) [] ?_ ?_ ?_ ?_
  · exact hr
  · simp [SubE, SubR, go_sem]
  · rintro acc hR
    have hR' : true = r := hR
    simp (config := {contextual := true, maxSteps := 2000000, implicitDefEqProofs := false}) [go_sem]
    grind
  · rintro pre0 x rest acc hl hlen hR
    have hx8 : x.items.length ≤ maxLen ∨ True := .inr trivial
    rcases List.eq_nil_or_concat pre0 with rfl | ⟨q, y, rfl⟩
    · have hln : t.buckets.length = 0 + (rest.length + 1) := by rw [← hl]; simp
      have hn : nth (List.map (enBkt.av τ) t.buckets) (0) = (enBkt.av τ) x := by rw [← hl]; simp [go_sem]
      have hw : t.buckets.length ≤ maxLen → IntKind.i64.wrap ((0 : Int) + 1) = (0 : Int) + 1 := fun h => wrap_ok (by omega) (by simp only [maxLen] at h; omega)
      have h3 : (0 : Int) ≤ (0 : Int) := by omega
      have h4 : (0 : Int) < (t.buckets.length : Int) := by omega
      have h5 : ¬ (t.buckets.length : Int) ≤ (0 : Int) := by omega
      have hw0 : IntKind.i64.wrap 1 = 1 := by decide
      have h4n : 0 < t.buckets.length := by omega
      simp only [treeL, List.getLast?_nil, bktOk] at hR
      generalize hM : (useB acc x.items).elim false (fun a => treeL t (some x) a rest) = M at hR
      simp (config := {contextual := true, maxSteps := 2000000, implicitDefEqProofs := false}) [go_sem, hL, hw0, h4n, hn, hw, h3, h4, h5, SubE, SubR, hp]
      refine ⟨fun h => by grind, ?_⟩
      intros
      have hMr : M = r := by grind
      refine VW_listKE [] [1, 3] hT h2 hm x.items [1, 3, 19, 20, 21, 65, 66] (fun pre post (ac : List Int) => [.box 39 [.sl τ 2 (t.devices.map (enDev.av τ)), .sl τ 3 (t.buckets.map (enBkt.av τ))], .mp (kvs ac)]) (fun pre post (ac : List Int) => [(67, .int .i64 pre.length)]) (fun pre post (ac : List Int) => (useB ac post).elim false (fun a => treeL t (some x) a rest) = r) acc ?_ ?_ ?_ ?_
      · rw [← hMr]; exact hM
      · simp [SubE, SubR, go_sem]
      · rintro ac hR3
        have hR4 : treeL t (some x) ac rest = r := hR3
        simp (config := {contextual := true, maxSteps := 2000000, implicitDefEqProofs := false}) [go_sem, hL, hw0, h4n, hn, hw, h3, h4, h5, SubE, SubR]
        first | exact ⟨ac, hR4, rfl⟩ | exact ⟨ac, hR4, rfl, by omega⟩
      · rintro pre y post ac hl' hlen' hR3
        have hw' : pre.length + (post.length + 1) ≤ maxLen → IntKind.i64.wrap ((pre.length : Int) + 1) = (pre.length : Int) + 1 := fun h => wrap_next h (by omega)
        have h3' : (0 : Int) ≤ pre.length := by omega
        have h4' : (pre.length : Int) < (pre.length : Int) + ((post.length : Int) + 1) := by omega
        have h5' : ¬ (pre.length : Int) + ((post.length : Int) + 1) ≤ (pre.length : Int) := by omega
        have hR4 : (if y ∈ ac then none else useB (ins ac y) post) = useB ac (y :: post) := rfl
        rw [← hR4] at hR3
        have hlx : pre.length + (post.length + 1) ≤ maxLen := by omega
        simp (config := {contextual := true, maxSteps := 2000000, implicitDefEqProofs := false}) [go_sem, hw', hlx, h3', h4', h5', ← hl', SubE, SubR]
        refine ⟨fun h => by intros; simpa [h] using hR3.symm, fun h => ⟨ins ac y, by simpa [h] using hR3, rfl⟩⟩
    · have hln : t.buckets.length = q.length + 1 + (rest.length + 1) := by rw [← hl]; simp; omega
      have hn : nth (List.map (enBkt.av τ) t.buckets) (q.length + 1) = (enBkt.av τ) x := by rw [← hl]; simp [go_sem]
      have hw : t.buckets.length ≤ maxLen → IntKind.i64.wrap (((q.length : Int) + 1) + 1) = ((q.length : Int) + 1) + 1 := fun h => wrap_ok (by omega) (by simp only [maxLen] at h; omega)
      have h3 : (0 : Int) ≤ ((q.length : Int) + 1) := by omega
      have h4 : ((q.length : Int) + 1) < (t.buckets.length : Int) := by omega
      have h5 : ¬ (t.buckets.length : Int) ≤ ((q.length : Int) + 1) := by omega
      have h6 : nth (List.map (enBkt.av τ) t.buckets) q.length = (enBkt.av τ) y := by rw [← hl]; simp [go_sem]
      have h7 : t.buckets.length ≤ maxLen → IntKind.i64.wrap (q.length : Int) = (q.length : Int) := fun h => wrap_ok (by omega) (by simp only [maxLen] at h; omega)
      have h8 : (0 : Int) ≤ (q.length : Int) := by omega
      have h9 : (0 : Int) < ((q.length : Int) + 1) := by omega
      have h10 : (q.length : Int) < (t.buckets.length : Int) := by omega
      simp only [treeL, last_concat, bktOk] at hR
      generalize hM : (useB acc x.items).elim false (fun a => treeL t (some x) a rest) = M at hR
      simp (config := {contextual := true, maxSteps := 2000000, implicitDefEqProofs := false}) [go_sem, hL, hn, hw, h3, h4, h5, h6, h7, h8, h9, h10, SubE, SubR, hp]
      refine ⟨fun h => by grind, ?_⟩
      intros
      have hMr : M = r := by grind
      refine VW_listKE [] [1, 3] hT h2 hm x.items [1, 3, 19, 20, 21, 65, 66] (fun pre post (ac : List Int) => [.box 39 [.sl τ 2 (t.devices.map (enDev.av τ)), .sl τ 3 (t.buckets.map (enBkt.av τ))], .mp (kvs ac)]) (fun pre post (ac : List Int) => [(67, .int .i64 pre.length)]) (fun pre post (ac : List Int) => (useB ac post).elim false (fun a => treeL t (some x) a rest) = r) acc ?_ ?_ ?_ ?_
      · rw [← hMr]; exact hM
      · simp [SubE, SubR, go_sem]
      · rintro ac hR3
        have hR4 : treeL t (some x) ac rest = r := hR3
        simp (config := {contextual := true, maxSteps := 2000000, implicitDefEqProofs := false}) [go_sem, hL, hn, hw, h3, h4, h5, h6, h7, h8, h9, h10, SubE, SubR]
        first | exact ⟨ac, hR4, rfl⟩ | exact ⟨ac, hR4, rfl, by omega⟩
      · rintro pre y post ac hl' hlen' hR3
        have hw' : pre.length + (post.length + 1) ≤ maxLen → IntKind.i64.wrap ((pre.length : Int) + 1) = (pre.length : Int) + 1 := fun h => wrap_next h (by omega)
        have h3' : (0 : Int) ≤ pre.length := by omega
        have h4' : (pre.length : Int) < (pre.length : Int) + ((post.length : Int) + 1) := by omega
        have h5' : ¬ (pre.length : Int) + ((post.length : Int) + 1) ≤ (pre.length : Int) := by omega
        have hR4 : (if y ∈ ac then none else useB (ins ac y) post) = useB ac (y :: post) := rfl
        rw [← hR4] at hR3
        have hlx : pre.length + (post.length + 1) ≤ maxLen := by omega
        simp (config := {contextual := true, maxSteps := 2000000, implicitDefEqProofs := false}) [go_sem, hw', hlx, h3', h4', h5', ← hl', SubE, SubR]
        refine ⟨fun h => by intros; simpa [h] using hR3.symm, fun h => ⟨ins ac y, by simpa [h] using hR3, rfl⟩⟩
end Go.Ve
namespace Go.Ve
open Go.Proofs Go.RowKit
set_option linter.unusedVariables false
set_option linter.unusedSimpArgs false
set_option maxRecDepth 10000
set_option maxHeartbeats 4000000
def codeOk (c : Code) : Bool := btw c.k 1 4 && btw c.m 0 3
def poolOk (p : Pool) : Bool := btw p.id 1 4 && codeOk p.code && btw p.min p.code.k (p.code.k + p.code.m) && btw p.pgs 1 16 && btw p.rule 1 4
def ruleOk (t : Tree) (r : Rule) : Bool := btw r.id 1 4 && decide (kindOf t r.root = 3) && btw r.kind 0 2
def l08Ok (t : Tree) (r : Rule) : Bool := btw r.id 1 4 && decide (r.root < 0) && decide (kindOf t r.root = 3) && btw r.kind 0 2
theorem wrap_size {c : Code} (h : codeOk c = true) : IntKind.i64.wrap (c.k + c.m) = c.k + c.m := by
  simp only [codeOk, btw, Bool.and_eq_true, decide_eq_true_eq] at h
  exact wrap_ok (by omega) (by omega)
theorem chk_mem {α : Type} {p : Option α → α → Bool} : ∀ {l : List α} {o : Option α}, chk p o l = true → ∀ x ∈ l, ∃ o', p o' x = true
  | [], _, _, x, hx => by cases hx
  | y :: l, o, h, x, hx => by
    simp only [chk, Bool.and_eq_true] at h
    rcases List.mem_cons.1 hx with rfl | hx
    · exact ⟨o, h.1⟩
    · exact chk_mem h.2 x hx
theorem bkt_neg {t : Tree} (h : bktsOk t = true) {b : Bkt} (hb : b ∈ t.buckets) : b.id < 0 ∧ btw b.kind 1 3 = true := by
  simp only [bktsOk, Bool.and_eq_true] at h
  obtain ⟨o, ho⟩ := chk_mem h.1 b hb
  simp only [bkt0, Bool.and_eq_true] at ho
  have h1 := ho.1.1.1
  simp only [btw, Bool.and_eq_true, decide_eq_true_eq] at h1
  exact ⟨by omega, ho.1.1.2⟩
theorem treeOk_parts {t : Tree} (h : treeOk t = true) : devsOk t = true ∧ bktsOk t = true ∧ onceL [] (t.buckets.flatMap (·.items)) = true ∧ t.buckets.all (fitsOk t) = true := by
  simp only [treeOk, Bool.and_eq_true] at h
  exact ⟨h.1.1.1, h.1.1.2, h.1.2, h.2⟩
theorem bktO_some {t : Tree} {id : Int} {b : Bkt} (h : bktO t id = some b) : b ∈ t.buckets ∧ b.id = id := by
  refine ⟨List.mem_of_find?_eq_some h, ?_⟩
  have := List.find?_some h
  simpa using this
theorem kind_neg {t : Tree} (h : treeOk t = true) {id : Int} (hk : kindOf t id = 3) : id < 0 := by
  unfold kindOf at hk
  split at hk
  · omega
  · split at hk
    · rename_i b hb
      obtain ⟨h1, h2⟩ := bktO_some hb
      have := (bkt_neg (treeOk_parts h).2.1 h1).1
      omega
    · omega
theorem l08_eq {t : Tree} {r : Rule} : (treeOk t && l08Ok t r) = (treeOk t && ruleOk t r) := by
  cases h : treeOk t
  · rfl
  · simp only [Bool.true_and, l08Ok, ruleOk]
    by_cases hk : kindOf t r.root = 3
    · have := kind_neg h hk
      simp [hk, this]
    · simp [hk]
def incP (o : Option Int) (x : Int) : Bool := match o with
  | some y => decide (y < x)
  | none => true
def incr (l : List Int) : Bool := chk incP none l
theorem exists_concat {α : Type} (y : α) (l : List α) : ∃ q z, y :: l = q ++ [z] := by
  rcases List.eq_nil_or_concat (y :: l) with h | ⟨q, z, h⟩
  · cases h
  · exact ⟨q, z, by rw [h]; simp⟩
def ruleP (t : Tree) (o : Option Rule) (r : Rule) : Bool := ruleOk t r && (match o with
  | some y => decide (y.id < r.id)
  | none => true)
def rulesOk (m : Mp) : Bool := chk (ruleP m.tree) none m.rules && decide (m.rules.length ≤ 4)
def ruleO (m : Mp) (id : Int) : Option Rule := m.rules.find? (fun r : Rule => decide (r.id = id))
def poolO (m : Mp) (id : Int) : Option Pool := m.pools.find? (fun r : Pool => decide (r.id = id))
def poolP (m : Mp) (o : Option Pool) (p : Pool) : Bool := poolOk p && (match o with
  | some y => decide (y.id < p.id)
  | none => true) && (ruleO m p.rule).isSome
def poolsOk (m : Mp) : Bool := chk (poolP m) none m.pools && decide (m.pools.length ≤ 4)
def nodesOk (t : Tree) (l : List Int) : Bool := incr l && !l.any fun id => decide (devI t id < 0)
def mapOk (m : Mp) : Bool := btw m.epoch 1 60 && btw m.term 0 m.epoch && treeOk m.tree && rulesOk m && poolsOk m && nodesOk m.tree m.up && nodesOk m.tree m.out
def c135 : SCode := (.seq (.reg [⟨(some 1), .box 150 (.tmp 0), none⟩,
   ⟨(some 2), .assign (.const (.int .i64 0)), none⟩])
(.seq (.reg [⟨(some 3), .fieldAddr 150 (.tmp 1) 0, none⟩,
    ⟨(some 4), .load 2 (.tmp 3), none⟩,
    ⟨(some 5), .fieldAddr 150 (.tmp 1) 1, none⟩,
    ⟨(some 6), .load 2 (.tmp 5), none⟩,
    ⟨(some 7), .binOp .add 2 (.tmp 4) (.tmp 6) 2, none⟩,
    ⟨(some 2), .assign (.tmp 7), none⟩])
 .ret))
theorem s135 : slimF Tryz.f135 = some (c135, [.t 2], 8) := by kernel_rfl
theorem o135 : okF [] Tryz.f135 = true := by kernel_rfl
noncomputable def g135 : Fsem := sem1 enCode (fun c => True) (fun n c => .int .i64 (IntKind.i64.wrap (c.k + c.m)))
@[go_sem] theorem g135_eq {n : Nat} {c : Code} : g135 n [.agg [.int .i64 c.k, .int .i64 c.m]] = ⟨True, .int .i64 (IntKind.i64.wrap (c.k + c.m))⟩ := sem1_eq (τ := 0) (E := enCode)
theorem p135 : Pure Tryz.prog 135 g135 := by
  refine sem1_pure fun τ c n h2 hpre => ?_
  have hT : Table Tryz.prog [] := .nil
  have hn0 : n ≠ 0 := by omega
  refine SatP.of_body hT hm Tryz.func135 s135 o135 h2 (by simp) ?_
  simp (config := {contextual := true, maxSteps := 2000000, implicitDefEqProofs := false}) [c135, go_sem]
def c173 : SCode := (.seq (.reg [⟨(some 1), .box 152 (.tmp 0), none⟩,
   ⟨(some 2), .assign (.const (.bool false)), none⟩])
(.seq (.draw [⟨(some 3), .fieldAddr 152 (.tmp 1) 0, none⟩,
    ⟨(some 4), .load 2 (.tmp 3), none⟩,
    ⟨(some 5), .call ⟨(.value (.func 82)), #[(.tmp 4), (.const (.int .i64 1)), (.const (.int .i64 4))], #[2, 2, 2]⟩, none⟩,
    ⟨(some 6), .move (.tmp 5), none⟩,
    ⟨(some 7), .fieldAddr 152 (.tmp 1) 1, (some (6, true))⟩,
    ⟨(some 8), .load 150 (.tmp 7), (some (6, true))⟩,
    ⟨(some 9), .call ⟨(.value (.func 204)), #[(.tmp 8)], #[150]⟩, (some (6, true))⟩,
    ⟨(some 10), .pick (.tmp 6) (.tmp 9) (.const (.bool false)), none⟩,
    ⟨(some 11), .move (.tmp 10), none⟩,
    ⟨(some 12), .fieldAddr 152 (.tmp 1) 2, (some (11, true))⟩,
    ⟨(some 13), .load 2 (.tmp 12), (some (11, true))⟩,
    ⟨(some 14), .fieldAddr 152 (.tmp 1) 1, (some (11, true))⟩,
    ⟨(some 15), .fieldAddr 150 (.tmp 14) 0, (some (11, true))⟩,
    ⟨(some 16), .load 2 (.tmp 15), (some (11, true))⟩,
    ⟨(some 17), .fieldAddr 152 (.tmp 1) 1, (some (11, true))⟩,
    ⟨(some 18), .load 150 (.tmp 17), (some (11, true))⟩,
    ⟨(some 19), .call ⟨(.value (.func 135)), #[(.tmp 18)], #[150]⟩, (some (11, true))⟩,
    ⟨(some 20), .call ⟨(.value (.func 82)), #[(.tmp 13), (.tmp 16), (.tmp 19)], #[2, 2, 2]⟩, (some (11, true))⟩,
    ⟨(some 21), .pick (.tmp 11) (.tmp 20) (.const (.bool false)), none⟩,
    ⟨(some 22), .move (.tmp 21), none⟩,
    ⟨(some 23), .fieldAddr 152 (.tmp 1) 3, (some (22, true))⟩,
    ⟨(some 24), .load 2 (.tmp 23), (some (22, true))⟩,
    ⟨(some 25), .call ⟨(.value (.func 82)), #[(.tmp 24), (.const (.int .i64 1)), (.const (.int .i64 16))], #[2, 2, 2]⟩, (some (22, true))⟩,
    ⟨(some 26), .pick (.tmp 22) (.tmp 25) (.const (.bool false)), none⟩,
    ⟨(some 27), .move (.tmp 26), none⟩,
    ⟨(some 28), .fieldAddr 152 (.tmp 1) 4, (some (27, true))⟩,
    ⟨(some 29), .load 2 (.tmp 28), (some (27, true))⟩,
    ⟨(some 30), .call ⟨(.value (.func 82)), #[(.tmp 29), (.const (.int .i64 1)), (.const (.int .i64 4))], #[2, 2, 2]⟩, (some (27, true))⟩,
    ⟨(some 31), .pick (.tmp 27) (.tmp 30) (.const (.bool false)), none⟩,
    ⟨(some 2), .assign (.tmp 31), none⟩] [[], [0], [0, 1], [0, 1, 2], [0, 1, 2, 3], [0, 1, 2, 3, 4], [0, 1, 2, 3, 4, 5], [0, 1, 2, 3, 4, 5, 6], [0, 1, 2, 3, 4, 5, 6, 7], [0, 1, 2, 3, 4, 5, 6, 7, 8], [0, 1, 2, 3, 4, 5, 6, 7, 8, 9], [0, 1, 2, 3, 4, 5, 6, 7, 8], [0, 1, 2, 3, 4, 5, 6, 7, 8, 11], [0, 1, 2, 3, 4, 5, 6, 7, 8, 11, 12], [0, 1, 2, 3, 4, 5, 6, 7, 8], [0, 1, 2, 3, 4, 5, 6, 7, 8, 14], [0, 1, 2, 3, 4, 5, 6, 7, 8, 14, 15], [0, 1, 2, 3, 4, 5, 6, 7, 8, 9, 10, 11, 12, 13, 14, 15, 16], [0, 1, 2, 3, 4, 5, 6, 7, 8, 9, 10, 11, 12, 13, 14, 15, 16, 17], [0, 1, 2, 3, 4, 5, 6, 7, 8, 9, 10, 11, 12, 13, 14, 15, 16, 17, 18], [0, 1, 2, 3, 4, 5, 6, 7, 8, 9, 10, 11, 12, 13, 14, 15, 16, 17, 18, 19], [0, 1, 2, 3, 4, 5, 6, 7, 8, 9, 10, 11, 12, 13, 14, 15, 16, 17, 18, 19, 20], [0, 1, 2, 3, 4, 5, 6, 7, 8, 9, 10, 11, 12, 13, 14, 15, 16, 17, 18, 19, 20, 21], [0, 1, 2, 3, 4, 5, 6, 7, 8, 9, 10, 11, 12, 13, 14, 15, 16, 17, 18, 19, 20, 21, 22], [0, 1, 2, 3, 4, 5, 6, 7, 8, 9, 10, 11, 12, 13, 14, 15, 16, 17, 18, 19, 20, 21, 22, 23], [0, 1, 2, 3, 4, 5, 6, 7, 8, 9, 10, 11, 12, 13, 14, 15, 16, 17, 18, 19, 20, 21, 22, 23, 24], [0, 1, 2, 3, 4, 5, 6, 7, 8, 9, 10, 11, 12, 13, 14, 15, 16, 17, 18, 19, 20, 21, 22, 23, 24, 25], [0, 1, 2, 3, 4, 5, 6, 7, 8, 9, 10, 11, 12, 13, 14, 15, 16, 17, 18, 19, 20, 21, 22, 23, 24, 25, 26], [0, 1, 2, 3, 4, 5, 6, 7, 8, 9, 10, 11, 12, 13, 14, 15, 16, 17, 18, 19, 20, 21, 22, 23, 24, 25, 26, 27], [0, 1, 2, 3, 4, 5, 6, 7, 8, 9, 10, 11, 12, 13, 14, 15, 16, 17, 18, 19, 20, 21, 22, 23, 24, 25, 26, 27, 28]])
 .ret))
theorem s173 : slimF Tryz.f173 = some (c173, [.t 2], 32) := by kernel_rfl
theorem o173 : okF [(82, g82), (204, g204), (135, g135)] Tryz.f173 = true := by kernel_rfl
noncomputable def g173 : Fsem := sem1 enPool (fun p => True) (fun n p => .bool (poolOk p))
@[go_sem] theorem g173_eq {n : Nat} {p : Pool} : g173 n [.agg [.int .i64 p.id, .int .i64 p.code.k, .int .i64 p.code.m, .int .i64 p.min, .int .i64 p.pgs, .int .i64 p.rule]] = ⟨True, .bool (poolOk p)⟩ := sem1_eq (τ := 0) (E := enPool)
theorem p173 : Pure Tryz.prog 173 g173 := by
  refine sem1_pure fun τ p n h2 hpre => ?_
  have hT : Table Tryz.prog [(82, g82), (204, g204), (135, g135)] := (.cons p82 (.cons p204 (.cons p135 .nil)))
  have hn0 : n ≠ 0 := by omega
  refine SatP.of_body hT hm Tryz.func173 s173 o173 h2 (by simp) ?_
  simp (config := {contextual := true, maxSteps := 2000000, implicitDefEqProofs := false}) [c173, go_sem, poolOk, codeOk]
  cases hc : codeOk p.code
  · simp only [codeOk] at hc
    grind
  · have := wrap_size hc
    simp only [codeOk] at hc
    grind
def c168 : SCode := (.seq (.reg [⟨(some 1), .box 152 (.tmp 0), none⟩,
   ⟨(some 2), .assign (.const (.bool false)), none⟩])
(.seq (.reg [⟨(some 3), .fieldAddr 152 (.tmp 1) 0, none⟩,
    ⟨(some 4), .load 2 (.tmp 3), none⟩,
    ⟨(some 5), .call ⟨(.value (.func 93)), #[(.tmp 4), (.const (.int .i64 1)), (.const (.int .i64 4))], #[2, 2, 2]⟩, none⟩,
    ⟨(some 6), .move (.tmp 5), none⟩,
    ⟨(some 7), .fieldAddr 152 (.tmp 1) 1, (some (6, true))⟩,
    ⟨(some 8), .load 150 (.tmp 7), (some (6, true))⟩,
    ⟨(some 9), .call ⟨(.value (.func 199)), #[(.tmp 8)], #[150]⟩, (some (6, true))⟩,
    ⟨(some 10), .pick (.tmp 6) (.tmp 9) (.const (.bool false)), none⟩,
    ⟨(some 11), .move (.tmp 10), none⟩,
    ⟨(some 12), .fieldAddr 152 (.tmp 1) 2, (some (11, true))⟩,
    ⟨(some 13), .load 2 (.tmp 12), (some (11, true))⟩,
    ⟨(some 14), .fieldAddr 152 (.tmp 1) 1, (some (11, true))⟩,
    ⟨(some 15), .fieldAddr 150 (.tmp 14) 0, (some (11, true))⟩,
    ⟨(some 16), .load 2 (.tmp 15), (some (11, true))⟩,
    ⟨(some 17), .fieldAddr 152 (.tmp 1) 1, (some (11, true))⟩,
    ⟨(some 18), .fieldAddr 150 (.tmp 17) 0, (some (11, true))⟩,
    ⟨(some 19), .load 2 (.tmp 18), (some (11, true))⟩,
    ⟨(some 20), .fieldAddr 152 (.tmp 1) 1, (some (11, true))⟩,
    ⟨(some 21), .fieldAddr 150 (.tmp 20) 1, (some (11, true))⟩,
    ⟨(some 22), .load 2 (.tmp 21), (some (11, true))⟩,
    ⟨(some 23), .binOp .add 2 (.tmp 19) (.tmp 22) 2, (some (11, true))⟩,
    ⟨(some 24), .call ⟨(.value (.func 93)), #[(.tmp 13), (.tmp 16), (.tmp 23)], #[2, 2, 2]⟩, (some (11, true))⟩,
    ⟨(some 25), .pick (.tmp 11) (.tmp 24) (.const (.bool false)), none⟩,
    ⟨(some 26), .move (.tmp 25), none⟩,
    ⟨(some 27), .fieldAddr 152 (.tmp 1) 3, (some (26, true))⟩,
    ⟨(some 28), .load 2 (.tmp 27), (some (26, true))⟩,
    ⟨(some 29), .call ⟨(.value (.func 93)), #[(.tmp 28), (.const (.int .i64 1)), (.const (.int .i64 16))], #[2, 2, 2]⟩, (some (26, true))⟩,
    ⟨(some 30), .pick (.tmp 26) (.tmp 29) (.const (.bool false)), none⟩,
    ⟨(some 31), .move (.tmp 30), none⟩,
    ⟨(some 32), .fieldAddr 152 (.tmp 1) 4, (some (31, true))⟩,
    ⟨(some 33), .load 2 (.tmp 32), (some (31, true))⟩,
    ⟨(some 34), .call ⟨(.value (.func 93)), #[(.tmp 33), (.const (.int .i64 1)), (.const (.int .i64 4))], #[2, 2, 2]⟩, (some (31, true))⟩,
    ⟨(some 35), .pick (.tmp 31) (.tmp 34) (.const (.bool false)), none⟩,
    ⟨(some 2), .assign (.tmp 35), none⟩])
 .ret))
theorem s168 : slimF Tryz.f168 = some (c168, [.t 2], 36) := by kernel_rfl
theorem o168 : okF [(93, g93), (199, g199)] Tryz.f168 = true := by kernel_rfl
noncomputable def g168 : Fsem := sem1 enPool (fun p => True) (fun n p => .bool (poolOk p))
@[go_sem] theorem g168_eq {n : Nat} {p : Pool} : g168 n [.agg [.int .i64 p.id, .int .i64 p.code.k, .int .i64 p.code.m, .int .i64 p.min, .int .i64 p.pgs, .int .i64 p.rule]] = ⟨True, .bool (poolOk p)⟩ := sem1_eq (τ := 0) (E := enPool)
theorem p168 : Pure Tryz.prog 168 g168 := by
  refine sem1_pure fun τ p n h2 hpre => ?_
  have hT : Table Tryz.prog [(93, g93), (199, g199)] := (.cons p93 (.cons p199 .nil))
  have hn0 : n ≠ 0 := by omega
  refine SatP.of_body hT hm Tryz.func168 s168 o168 h2 (by simp) ?_
  simp (config := {contextual := true, maxSteps := 2000000, implicitDefEqProofs := false}) [c168, go_sem, poolOk, codeOk]
  cases hc : codeOk p.code
  · simp only [codeOk] at hc
    grind
  · have := wrap_size hc
    simp only [codeOk] at hc
    grind
def c120 : SCode := (.seq (.reg [⟨(some 1), .box 152 (.tmp 0), none⟩,
   ⟨(some 2), .assign (.const (.bool false)), none⟩])
(.seq (.reg [⟨(some 3), .load 152 (.tmp 1), none⟩,
    ⟨(some 4), .call ⟨(.value (.func 168)), #[(.tmp 3)], #[152]⟩, none⟩,
    ⟨(some 2), .assign (.tmp 4), none⟩])
 .ret))
theorem s120 : slimF Tryz.f120 = some (c120, [.t 2], 5) := by kernel_rfl
theorem o120 : okF [(168, g168)] Tryz.f120 = true := by kernel_rfl
noncomputable def g120 : Fsem := sem1 enPool (fun p => True) (fun n p => .bool (poolOk p))
@[go_sem] theorem g120_eq {n : Nat} {p : Pool} : g120 n [.agg [.int .i64 p.id, .int .i64 p.code.k, .int .i64 p.code.m, .int .i64 p.min, .int .i64 p.pgs, .int .i64 p.rule]] = ⟨True, .bool (poolOk p)⟩ := sem1_eq (τ := 0) (E := enPool)
theorem p120 : Pure Tryz.prog 120 g120 := by
  refine sem1_pure fun τ p n h2 hpre => ?_
  have hT : Table Tryz.prog [(168, g168)] := (.cons p168 .nil)
  have hn0 : n ≠ 0 := by omega
  refine SatP.of_body hT hm Tryz.func120 s120 o120 h2 (by simp) ?_
  simp (config := {contextual := true, maxSteps := 2000000, implicitDefEqProofs := false}) [c120, go_sem]
def c106 : SCode := (.seq (.reg [⟨(some 2), .box 39 (.tmp 0), none⟩,
   ⟨(some 3), .box 41 (.tmp 1), none⟩,
   ⟨(some 4), .assign (.const (.bool false)), none⟩])
(.seq (.reg [⟨(some 5), .fieldAddr 41 (.tmp 3) 0, none⟩,
    ⟨(some 6), .load 2 (.tmp 5), none⟩,
    ⟨(some 7), .call ⟨(.value (.func 82)), #[(.tmp 6), (.const (.int .i64 1)), (.const (.int .i64 4))], #[2, 2, 2]⟩, none⟩,
    ⟨(some 8), .move (.tmp 7), none⟩,
    ⟨(some 9), .load 39 (.tmp 2), (some (8, true))⟩,
    ⟨(some 10), .fieldAddr 41 (.tmp 3) 1, (some (8, true))⟩,
    ⟨(some 11), .load 2 (.tmp 10), (some (8, true))⟩,
    ⟨(some 12), .call ⟨(.value (.func 158)), #[(.tmp 9), (.tmp 11)], #[39, 2]⟩, (some (8, true))⟩,
    ⟨(some 13), .binOp .eql 2 (.tmp 12) (.const (.int .i64 3)) 2, (some (8, true))⟩,
    ⟨(some 14), .pick (.tmp 8) (.tmp 13) (.const (.bool false)), none⟩,
    ⟨(some 15), .move (.tmp 14), none⟩,
    ⟨(some 16), .fieldAddr 41 (.tmp 3) 2, (some (15, true))⟩,
    ⟨(some 17), .load 2 (.tmp 16), (some (15, true))⟩,
    ⟨(some 18), .call ⟨(.value (.func 82)), #[(.tmp 17), (.const (.int .i64 0)), (.const (.int .i64 2))], #[2, 2, 2]⟩, (some (15, true))⟩,
    ⟨(some 19), .pick (.tmp 15) (.tmp 18) (.const (.bool false)), none⟩,
    ⟨(some 4), .assign (.tmp 19), none⟩])
 .ret))
theorem s106 : slimF Tryz.f106 = some (c106, [.t 4], 20) := by kernel_rfl
theorem o106 : okF [(82, g82), (158, g158)] Tryz.f106 = true := by kernel_rfl
noncomputable def g106 : Fsem := semT2 enTree enRule (fun τ t r => τ ≠ 0) (fun n τ t r => .bool (ruleOk t r))
@[go_sem] theorem g106_eq {n τ : Nat} {t : Tree} {r : Rule} : g106 n [.agg [.sl τ 2 (t.devices.map (enDev.av τ)), .sl τ 3 (t.buckets.map (enBkt.av τ))], .agg [.int .i64 r.id, .int .i64 r.root, .int .i64 r.kind, .bool r.indep]] = ⟨τ ≠ 0, .bool (ruleOk t r)⟩ := semT2_eq (τ' := 0) (E := enTree) (F := enRule) (seen_Tree)
theorem p106 : Pure Tryz.prog 106 g106 := by
  refine semT2_pure fun τ τ' t r n h2 hpre => ?_
  have hT : Table Tryz.prog [(82, g82), (158, g158)] := (.cons p82 (.cons p158 .nil))
  have hn0 : n ≠ 0 := by omega
  refine SatP.of_body hT hm Tryz.func106 s106 o106 h2 (by simp) ?_
  have hp : τ ≠ 0 := hpre
  simp (config := {contextual := true, maxSteps := 2000000, implicitDefEqProofs := false}) [c106, go_sem, hp, ruleOk]
def c51 : SCode := (.seq (.reg [⟨(some 2), .box 39 (.tmp 0), none⟩,
   ⟨(some 3), .box 41 (.tmp 1), none⟩,
   ⟨(some 4), .assign (.const (.bool false)), none⟩])
(.seq (.reg [⟨(some 5), .load 39 (.tmp 2), none⟩,
    ⟨(some 6), .call ⟨(.value (.func 105)), #[(.tmp 5)], #[39]⟩, none⟩,
    ⟨(some 7), .move (.tmp 6), none⟩,
    ⟨(some 8), .load 39 (.tmp 2), (some (7, true))⟩,
    ⟨(some 9), .load 41 (.tmp 3), (some (7, true))⟩,
    ⟨(some 10), .call ⟨(.value (.func 106)), #[(.tmp 8), (.tmp 9)], #[39, 41]⟩, (some (7, true))⟩,
    ⟨(some 11), .pick (.tmp 7) (.tmp 10) (.const (.bool false)), none⟩,
    ⟨(some 4), .assign (.tmp 11), none⟩])
 .ret))
theorem s51 : slimF Tryz.f51 = some (c51, [.t 4], 12) := by kernel_rfl
theorem o51 : okF [(105, g105), (106, g106)] Tryz.f51 = true := by kernel_rfl
noncomputable def g51 : Fsem := semT2 enTree enRule (fun τ t r => τ ≠ 0) (fun n τ t r => .bool (treeOk t && ruleOk t r))
@[go_sem] theorem g51_eq {n τ : Nat} {t : Tree} {r : Rule} : g51 n [.agg [.sl τ 2 (t.devices.map (enDev.av τ)), .sl τ 3 (t.buckets.map (enBkt.av τ))], .agg [.int .i64 r.id, .int .i64 r.root, .int .i64 r.kind, .bool r.indep]] = ⟨τ ≠ 0, .bool (treeOk t && ruleOk t r)⟩ := semT2_eq (τ' := 0) (E := enTree) (F := enRule) (seen_Tree)
theorem p51 : Pure Tryz.prog 51 g51 := by
  refine semT2_pure fun τ τ' t r n h2 hpre => ?_
  have hT : Table Tryz.prog [(105, g105), (106, g106)] := (.cons p105 (.cons p106 .nil))
  have hn0 : n ≠ 0 := by omega
  refine SatP.of_body hT hm Tryz.func51 s51 o51 h2 (by simp) ?_
  have hp : τ ≠ 0 := hpre
  simp (config := {contextual := true, maxSteps := 2000000, implicitDefEqProofs := false}) [c51, go_sem, hp]
def c44 : SCode := (.seq (.reg [⟨(some 2), .box 39 (.tmp 0), none⟩,
   ⟨(some 3), .box 41 (.tmp 1), none⟩,
   ⟨(some 4), .assign (.const (.bool false)), none⟩])
(.seq (.reg [⟨(some 5), .fieldAddr 41 (.tmp 3) 0, none⟩,
    ⟨(some 6), .load 2 (.tmp 5), none⟩,
    ⟨(some 7), .call ⟨(.value (.func 93)), #[(.tmp 6), (.const (.int .i64 1)), (.const (.int .i64 4))], #[2, 2, 2]⟩, none⟩,
    ⟨(some 8), .move (.tmp 7), none⟩,
    ⟨(some 9), .fieldAddr 41 (.tmp 3) 1, (some (8, true))⟩,
    ⟨(some 10), .load 2 (.tmp 9), (some (8, true))⟩,
    ⟨(some 11), .binOp .lss 2 (.tmp 10) (.const (.int .i64 0)) 2, (some (8, true))⟩,
    ⟨(some 12), .pick (.tmp 8) (.tmp 11) (.const (.bool false)), none⟩,
    ⟨(some 13), .move (.tmp 12), none⟩,
    ⟨(some 14), .load 39 (.tmp 2), (some (13, true))⟩,
    ⟨(some 15), .fieldAddr 41 (.tmp 3) 1, (some (13, true))⟩,
    ⟨(some 16), .load 2 (.tmp 15), (some (13, true))⟩,
    ⟨(some 17), .call ⟨(.value (.func 94)), #[(.tmp 14), (.tmp 16)], #[39, 2]⟩, (some (13, true))⟩,
    ⟨(some 18), .binOp .eql 2 (.tmp 17) (.const (.int .i64 3)) 2, (some (13, true))⟩,
    ⟨(some 19), .pick (.tmp 13) (.tmp 18) (.const (.bool false)), none⟩,
    ⟨(some 20), .move (.tmp 19), none⟩,
    ⟨(some 21), .fieldAddr 41 (.tmp 3) 2, (some (20, true))⟩,
    ⟨(some 22), .load 2 (.tmp 21), (some (20, true))⟩,
    ⟨(some 23), .call ⟨(.value (.func 93)), #[(.tmp 22), (.const (.int .i64 0)), (.const (.int .i64 2))], #[2, 2, 2]⟩, (some (20, true))⟩,
    ⟨(some 24), .pick (.tmp 20) (.tmp 23) (.const (.bool false)), none⟩,
    ⟨(some 4), .assign (.tmp 24), none⟩])
 .ret))
theorem s44 : slimF Tryz.f44 = some (c44, [.t 4], 25) := by kernel_rfl
theorem o44 : okF [(93, g93), (94, g94)] Tryz.f44 = true := by kernel_rfl
noncomputable def g44 : Fsem := sem2 enTree enRule (fun t r => True) (fun n t r => .bool (l08Ok t r))
@[go_sem] theorem g44_eq {n τ : Nat} {t : Tree} {r : Rule} : g44 n [.agg [.sl τ 2 (t.devices.map (enDev.av τ)), .sl τ 3 (t.buckets.map (enBkt.av τ))], .agg [.int .i64 r.id, .int .i64 r.root, .int .i64 r.kind, .bool r.indep]] = ⟨True, .bool (l08Ok t r)⟩ := sem2_eq (τ' := 0) (E := enTree) (F := enRule)
theorem p44 : Pure Tryz.prog 44 g44 := by
  refine sem2_pure fun τ τ' t r n h2 hpre => ?_
  have hT : Table Tryz.prog [(93, g93), (94, g94)] := (.cons p93 (.cons p94 .nil))
  have hn0 : n ≠ 0 := by omega
  refine SatP.of_body hT hm Tryz.func44 s44 o44 h2 (by simp) ?_
  simp (config := {contextual := true, maxSteps := 2000000, implicitDefEqProofs := false}) [c44, go_sem, l08Ok]
def c119 : SCode := (.seq (.reg [⟨(some 2), .box 39 (.tmp 0), none⟩,
   ⟨(some 3), .box 41 (.tmp 1), none⟩,
   ⟨(some 4), .assign (.const (.bool false)), none⟩])
(.seq (.reg [⟨(some 5), .load 39 (.tmp 2), none⟩,
    ⟨(some 6), .call ⟨(.value (.func 43)), #[(.tmp 5)], #[39]⟩, none⟩,
    ⟨(some 7), .move (.tmp 6), none⟩,
    ⟨(some 8), .load 39 (.tmp 2), (some (7, true))⟩,
    ⟨(some 9), .load 41 (.tmp 3), (some (7, true))⟩,
    ⟨(some 10), .call ⟨(.value (.func 44)), #[(.tmp 8), (.tmp 9)], #[39, 41]⟩, (some (7, true))⟩,
    ⟨(some 11), .pick (.tmp 7) (.tmp 10) (.const (.bool false)), none⟩,
    ⟨(some 4), .assign (.tmp 11), none⟩])
 .ret))
theorem s119 : slimF Tryz.f119 = some (c119, [.t 4], 12) := by kernel_rfl
theorem o119 : okF [(43, g43), (44, g44)] Tryz.f119 = true := by kernel_rfl
noncomputable def g119 : Fsem := sem2 enTree enRule (fun t r => True) (fun n t r => .bool (treeOk t && ruleOk t r))
@[go_sem] theorem g119_eq {n τ : Nat} {t : Tree} {r : Rule} : g119 n [.agg [.sl τ 2 (t.devices.map (enDev.av τ)), .sl τ 3 (t.buckets.map (enBkt.av τ))], .agg [.int .i64 r.id, .int .i64 r.root, .int .i64 r.kind, .bool r.indep]] = ⟨True, .bool (treeOk t && ruleOk t r)⟩ := sem2_eq (τ' := 0) (E := enTree) (F := enRule)
theorem p119 : Pure Tryz.prog 119 g119 := by
  refine sem2_pure fun τ τ' t r n h2 hpre => ?_
  have hT : Table Tryz.prog [(43, g43), (44, g44)] := (.cons p43 (.cons p44 .nil))
  have hn0 : n ≠ 0 := by omega
  refine SatP.of_body hT hm Tryz.func119 s119 o119 h2 (by simp) ?_
  rw [← l08_eq]
  simp (config := {contextual := true, maxSteps := 2000000, implicitDefEqProofs := false}) [c119, go_sem]
def c174 : SCode := (.seq (.reg [⟨(some 2), .assign (.const (.bool false)), none⟩])
(.seq (.seq (.reg [⟨(some 3), .assign (.const (.int .i64 1)), none⟩])
  (.block 0 (.loop (.seq (.seq (.reg [⟨(some 4), .move (.tmp 3), none⟩,
         ⟨(some 5), .move (.tmp 0), none⟩,
         ⟨(some 6), .call ⟨(.builtin .len), #[(.tmp 5)], #[28]⟩, none⟩,
         ⟨(some 7), .binOp .lss 3 (.tmp 4) (.tmp 6) 3, none⟩])
      (.cond (.tmp 7) .skip
       (.exit 0)))
     (.seq (.block 1 (.seq (.draw [⟨(some 10), .move (.tmp 0), none⟩,
           ⟨(some 11), .move (.tmp 3), none⟩,
           ⟨(some 12), .indexAddr 28 (.tmp 10) (.tmp 11), none⟩,
           ⟨(some 13), .load 2 (.tmp 12), none⟩,
           ⟨(some 14), .move (.tmp 0), none⟩,
           ⟨(some 15), .move (.tmp 3), none⟩,
           ⟨(some 16), .binOp .sub 3 (.tmp 15) (.const (.int .i64 1)) 3, none⟩,
           ⟨(some 17), .indexAddr 28 (.tmp 14) (.tmp 16), none⟩,
           ⟨(some 18), .load 2 (.tmp 17), none⟩,
           ⟨(some 19), .binOp .leq 2 (.tmp 13) (.tmp 18) 2, none⟩] [[], [], [0, 1], [0, 1, 2], [], [], [5], [4, 5, 6], [4, 5, 6, 7], [0, 1, 2, 3, 4, 5, 6, 7, 8]])
        (.cond (.tmp 19) (.seq (.reg [⟨(some 2), .assign (.const (.bool false)), none⟩])
          .ret)
         .skip)))
      (.reg [⟨(some 8), .move (.tmp 3), none⟩,
         ⟨(some 9), .binOp .add 3 (.tmp 8) (.const (.int .i64 1)) 3, none⟩,
         ⟨(some 3), .assign (.tmp 9), none⟩]))))))
 (.seq (.reg [⟨(some 2), .assign (.const (.bool true)), none⟩])
  .ret)))
theorem s174 : slimF Tryz.f174 = some (c174, [.t 2], 20) := by kernel_rfl
theorem o174 : okF [] Tryz.f174 = true := by kernel_rfl
noncomputable def g174 : Fsem := sem1 (En.int .i64).list (fun l => True) (fun n l => .bool (incr l))
@[go_sem] theorem g174_eq {n τ : Nat} {l : List Int} : g174 n [.sl τ 1 (l.map (AV.int .i64))] = ⟨True, .bool (incr l)⟩ := sem1_eq  (E := (En.int .i64).list)
theorem p174 : Pure Tryz.prog 174 g174 := by
  refine sem1_pure fun τ l n h2 hpre => ?_
  have hT : Table Tryz.prog [] := .nil
  have hn0 : n ≠ 0 := by omega
  refine SatP.of_body hT hm Tryz.func174 s174 o174 h2 (by simp) ?_
  cases l with
  | nil =>
    simp (config := {contextual := true, maxSteps := 2000000, implicitDefEqProofs := false}) [c174, go_sem]
    refine VW_listK hT h2 hm ([] : List Int) [0] (fun pre post (b : Unit) => [(3, .int .i64 1)]) (fun pre post (b : Unit) => True) () ?_ ?_ ?_ ?_
    · trivial
    · simp [SubI, go_sem]
    · intro _ _
      simp (config := {contextual := true, maxSteps := 2000000, implicitDefEqProofs := false}) [go_sem]
      simp [incr, chk]
    · intro pre x post _ hl
      simp at hl
  | cons y l =>
    generalize hr : incr (y :: l) = r
    simp (config := {contextual := true, maxSteps := 2000000, implicitDefEqProofs := false}) [c174, go_sem]
    refine VW_listK hT h2 hm l [0] (fun pre post (b : Unit) => [(3, .int .i64 ((pre.length : Int) + 1))]) (fun pre post (b : Unit) => chk incP (y :: pre).getLast? post = r) () ?_ ?_ ?_ ?_
    · rw [← hr]; simp [incr, chk, incP]
    · simp [SubI, go_sem]
    · intro _ hR
      simp (config := {contextual := true, maxSteps := 2000000, implicitDefEqProofs := false}) [go_sem]
      simp [chk] at hR
      grind
    · intro pre x post _ hl hlen hR
      obtain ⟨q, z, hq⟩ := exists_concat y pre
      have hpl : pre.length = q.length := by
        have := congrArg List.length hq
        simpa using this
      have hll : y :: l = q ++ z :: x :: post := by
        rw [← hl, ← List.cons_append, hq]
        simp
      have hn1 : nth (List.map (AV.int .i64) (y :: l)) q.length = .int .i64 z := by rw [hll]; simp [go_sem]
      have hn2 : nth (List.map (AV.int .i64) (y :: l)) (q.length + 1) = .int .i64 x := by rw [hll]; simp [go_sem]
      simp only [List.map_cons] at hn1 hn2
      have hlen2 : l.length = q.length + (post.length + 1) := by omega
      have hw : l.length + 1 ≤ maxLen → IntKind.i64.wrap ((q.length : Int) + 1 + 1) = (q.length : Int) + 1 + 1 := fun h => wrap_ok (by omega) (by simp only [maxLen] at h; omega)
      have hw1 : l.length + 1 ≤ maxLen → IntKind.i64.wrap (q.length : Int) = (q.length : Int) := fun h => wrap_ok (by omega) (by simp only [maxLen] at h; omega)
      have h3 : (0 : Int) ≤ q.length := by omega
      have h4 : (0 : Int) ≤ (q.length : Int) + 1 := by omega
      have h5 : (q.length : Int) < l.length := by omega
      have h6 : (q.length : Int) + 1 < (l.length : Int) + 1 := by omega
      have h7 : (q.length : Int) < (l.length : Int) + 1 := by omega
      rw [hq, last_concat] at hR
      simp only [chk, incP] at hR
      simp (config := {contextual := true, maxSteps := 2000000, implicitDefEqProofs := false}) [go_sem, hpl, hn1, hn2, hw, hw1, h3, h4, h5, h6, h7, SubI] <;> grind
def c176 : SCode := (.seq (.reg [⟨(some 3), .assign (.const (.bool false)), none⟩])
(.seq (.reg [⟨(some 4), .load 39 (.tmp 1), none⟩,
    ⟨(some 5), .move (.tmp 0), none⟩,
    ⟨(some 6), .call ⟨(.value (.func 163)), #[(.tmp 4), (.tmp 5)], #[39, 2]⟩, none⟩,
    ⟨(some 7), .binOp .lss 3 (.tmp 6) (.const (.int .i64 0)) 3, none⟩,
    ⟨(some 3), .assign (.tmp 7), none⟩])
 .ret))
theorem s176 : slimF Tryz.f176 = some (c176, [.t 3], 8) := by kernel_rfl
theorem o176 : okF [(163, g163)] Tryz.f176 = true := by kernel_rfl
noncomputable def g176 : Fsem := semOf (fun i : Nat × Nat × Int × Tree => [.int .i64 i.2.2.1, .dptr i.1 (enTree.cs i.2.1 i.2.2.2)]) (fun _ => True) (fun _ i => .bool (decide (devI i.2.2.2 i.2.2.1 < 0)))
theorem tree_cs_inj {τ τ' : Nat} {t t' : Tree} (h : enTree.cs τ t = enTree.cs τ' t') : t = t' := by
  rw [← enTree.hdec τ t, ← enTree.hdec τ' t', h]
@[go_sem] theorem g176_eq {n τ τ' : Nat} {id : Int} {t : Tree} : g176 n [.int .i64 id, .dptr τ' [.sl τ 2 (t.devices.map (enDev.av τ)), .sl τ 3 (t.buckets.map (enBkt.av τ))]] = ⟨True, .bool (decide (devI t id < 0))⟩ :=
  semOf_eq (τ', τ, id, t) rfl fun ⟨_, _, id', t'⟩ h => by
    obtain ⟨h1, h⟩ := cons_inj h
    obtain ⟨h2, _⟩ := cons_inj h
    simp only [AV.int.injEq, true_and] at h1
    simp only [AV.dptr.injEq] at h2
    have := tree_cs_inj h2.2
    subst this h1
    exact ⟨Iff.rfl, rfl⟩
theorem p176 : Pure Tryz.prog 176 g176 := by
  refine semOf_pure fun ⟨τ', τ, id, t⟩ n h2 _ => ?_
  have hT : Table Tryz.prog [(163, g163)] := (.cons p163 .nil)
  refine SatP.of_body hT hm Tryz.func176 s176 o176 h2 (by simp) ?_
  simp (config := {contextual := true, implicitDefEqProofs := false}) [c176, go_sem]
theorem s149 : slimF Tryz.f149 = some (idxC 28 2, [.t 4], 19) := by kernel_rfl
theorem o149_176 : okF [(176, g176)] Tryz.f149 = true := by kernel_rfl
noncomputable def g149_176 : Fsem := idxSem (ι := Nat × Nat × Tree) (En.int .i64) 176 (fun i => [.dptr i.1 (enTree.cs i.2.1 i.2.2)]) (fun i x => decide (devI i.2.2 x < 0))
theorem g149_176_eq {n τ τ' τ'' : Nat} {l : List Int} {t : Tree} : g149_176 n [.sl τ 1 (l.map (AV.int .i64)), .fn 176 [.dptr τ' (enTree.cs τ'' t)]] = ⟨True, .int .i64 (idx (fun x => decide (devI t x < 0)) l)⟩ :=
  idxSem_eq (E := En.int .i64) (caps := fun i : Nat × Nat × Tree => [.dptr i.1 (enTree.cs i.2.1 i.2.2)]) (p := fun i x => decide (devI i.2.2 x < 0)) (τ', τ'', t) (fun j h => by
    obtain ⟨h1, _⟩ := cons_inj h
    simp only [AV.dptr.injEq] at h1
    have := tree_cs_inj h1.2
    simp only [this])
theorem p149_176 : Pure Tryz.prog 149 g149_176 := idxSem_pure hm Tryz.func149 s149 o149_176 (by omega) ty_28 (fite_2) p176 (fun i c hc => by simp at hc; subst hc; rfl) (fun i n τ x => by simp [go_sem])
theorem s175 : slimF Tryz.f175 = some (cfC 28 178 149, [.t 4], 9) := by kernel_rfl
theorem o175_176 : okF [(149, g149_176)] Tryz.f175 = true := by kernel_rfl
noncomputable def g175_176 : Fsem := cfSem (ι := Nat × Nat × Tree) (En.int .i64) 176 (fun i => [.dptr i.1 (enTree.cs i.2.1 i.2.2)]) (fun i x => decide (devI i.2.2 x < 0))
@[go_sem] theorem g175_176_eq {n τ τ' τ'' : Nat} {l : List Int} {t : Tree} : g175_176 n [.sl τ 1 (l.map (AV.int .i64)), .fn 176 [.dptr τ' [.sl τ'' 2 (t.devices.map (enDev.av τ'')), .sl τ'' 3 (t.buckets.map (enBkt.av τ''))]]] = ⟨True, .bool (l.any (fun x => decide (devI t x < 0)))⟩ :=
  cfSem_eq (E := En.int .i64) (caps := fun i : Nat × Nat × Tree => [.dptr i.1 (enTree.cs i.2.1 i.2.2)]) (p := fun i x => decide (devI i.2.2 x < 0)) (τ', τ'', t) (fun j h => by
    obtain ⟨h1, _⟩ := cons_inj h
    simp only [AV.dptr.injEq] at h1
    have := tree_cs_inj h1.2
    simp only [this])
theorem p175_176 : Pure Tryz.prog 175 g175_176 := cfSem_pure hm Tryz.func175 s175 o175_176 (by omega) p149_176 (fun i c hc => by simp at hc; subst hc; rfl) (fun i n τ l => g149_176_eq)
def c130 : SCode := (.seq (.reg [⟨(some 2), .box 39 (.tmp 0), none⟩,
   ⟨(some 4), .assign (.const (.bool false)), none⟩])
(.seq (.reg [⟨(some 5), .move (.tmp 1), none⟩,
    ⟨(some 6), .call ⟨(.value (.func 174)), #[(.tmp 5)], #[28]⟩, none⟩,
    ⟨(some 7), .move (.tmp 6), none⟩,
    ⟨(some 8), .move (.tmp 1), (some (7, true))⟩,
    ⟨(some 9), .makeFunc (Fn.func 176) #[] #[(.tmp 2)], (some (7, true))⟩,
    ⟨(some 10), .call ⟨(.value (.func 175)), #[(.tmp 8), (.tmp 9)], #[28, 178]⟩, (some (7, true))⟩,
    ⟨(some 11), .unOp .not 4 (.tmp 10), (some (7, true))⟩,
    ⟨(some 12), .pick (.tmp 7) (.tmp 11) (.const (.bool false)), none⟩,
    ⟨(some 4), .assign (.tmp 12), none⟩])
 .ret))
theorem s130 : slimF Tryz.f130 = some (c130, [.t 4], 13) := by kernel_rfl
theorem o130 : okF [(174, g174), (175, (dsp [(176, g175_176)]))] Tryz.f130 = true := by kernel_rfl
noncomputable def g130 : Fsem := sem2 enTree (En.int .i64).list (fun t l => True) (fun n t l => .bool (nodesOk t l))
@[go_sem] theorem g130_eq {n τ τ' : Nat} {t : Tree} {l : List Int} : g130 n [.agg [.sl τ 2 (t.devices.map (enDev.av τ)), .sl τ 3 (t.buckets.map (enBkt.av τ))], .sl τ' 1 (l.map (AV.int .i64))] = ⟨True, .bool (nodesOk t l)⟩ := sem2_eq  (E := enTree) (F := (En.int .i64).list)
theorem p130 : Pure Tryz.prog 130 g130 := by
  refine sem2_pure fun τ τ' t l n h2 hpre => ?_
  have hT : Table Tryz.prog [(174, g174), (175, (dsp [(176, g175_176)]))] := (.cons p174 (.cons (dsp_pure (by simp only [List.mem_cons, List.not_mem_nil, or_false, forall_eq]; exact p175_176)) .nil))
  have hn0 : n ≠ 0 := by omega
  refine SatP.of_body hT hm Tryz.func130 s130 o130 h2 (by simp) ?_
  simp (config := {contextual := true, maxSteps := 2000000, implicitDefEqProofs := false}) [c130, go_sem, nodesOk]
def c185 : SCode := (.seq (.reg [⟨(some 2), .box 41 (.tmp 0), none⟩,
   ⟨(some 3), .assign (.const (.bool false)), none⟩])
(.seq (.reg [⟨(some 4), .fieldAddr 41 (.tmp 2) 0, none⟩,
    ⟨(some 5), .load 2 (.tmp 4), none⟩,
    ⟨(some 6), .load 2 (.tmp 1), none⟩,
    ⟨(some 7), .binOp .eql 2 (.tmp 5) (.tmp 6) 2, none⟩,
    ⟨(some 3), .assign (.tmp 7), none⟩])
 .ret))
theorem s185 : slimF Tryz.f185 = some (c185, [.t 3], 8) := by kernel_rfl
theorem o185 : okF [] Tryz.f185 = true := by kernel_rfl
noncomputable def g185 : Fsem := semOf (fun i : Nat × Nat × Rule × Int => [enRule.av i.1 i.2.2.1, .dptr i.2.1 [.int .i64 i.2.2.2]]) (fun _ => True) (fun _ i => .bool (decide (i.2.2.1.id = i.2.2.2)))
@[go_sem] theorem g185_eq {n τ' : Nat} {x : Rule} {i : Int} : g185 n [.agg [.int .i64 x.id, .int .i64 x.root, .int .i64 x.kind, .bool x.indep], .dptr τ' [.int .i64 i]] = ⟨True, .bool (decide (x.id = i))⟩ :=
  semOf_eq (0, τ', x, i) rfl fun ⟨_, _, y, j⟩ h => by
    obtain ⟨h1, h⟩ := cons_inj h
    obtain ⟨h2, _⟩ := cons_inj h
    have h3 : y = x := enRule.inj h1
    simp at h2
    simp [h3, h2.2]
theorem p185 : Pure Tryz.prog 185 g185 := by
  refine semOf_pure fun ⟨τ, τ', x, i⟩ n h2 _ => ?_
  refine SatP.of_body Table.nil hm Tryz.func185 s185 o185 h2 (by simp) ?_
  simp (config := {contextual := true}) [c185, go_sem]
theorem s184 : slimF Tryz.f184 = some (idxC 62 41, [.t 4], 19) := by kernel_rfl
theorem o184_185 : okF [(185, g185)] Tryz.f184 = true := by kernel_rfl
noncomputable def g184_185 : Fsem := idxSem (ι := Nat × Int) enRule 185 (fun i => [.dptr i.1 [.int .i64 i.2]]) (fun i x => decide (x.id = i.2))
@[go_sem] theorem g184_185_eq {n τ τ' : Nat} {l : List Rule} {i : Int} : g184_185 n [.sl τ 4 (l.map (enRule.av τ)), .fn 185 [.dptr τ' [.int .i64 i]]] = ⟨True, .int .i64 (idx (fun x => decide (x.id = i)) l)⟩ :=
  idxSem_eq (E := enRule) (caps := fun i : Nat × Int => [.dptr i.1 [.int .i64 i.2]]) (p := fun i x => decide (x.id = i.2)) (τ', i) (fun j h => by first | (simp at h; simp [h]; done) | (simp only [List.cons.injEq, AV.dptr.injEq, and_true] at h; skip))
theorem p184_185 : Pure Tryz.prog 184 g184_185 := idxSem_pure hm Tryz.func184 s184 o184_185 (by omega) ty_62 fit_41 p185 (fun i c hc => by simp at hc; subst hc; rfl) (fun i n τ x => by simp [go_sem])
noncomputable def g184 : Fsem := dsp [(185, g184_185)]
theorem p184 : Pure Tryz.prog 184 g184 := dsp_pure (by simp only [List.mem_cons, List.not_mem_nil, or_false, forall_eq_or_imp, forall_eq]; exact p184_185)
@[go_sem] theorem g184_dsp : g184 = dsp [(185, g184_185)] := rfl
def c133 : SCode := (.seq (.reg [⟨(some 2), .box 65 (.tmp 0), none⟩,
   ⟨(some 3), .box 2 (.tmp 1), none⟩,
   ⟨(some 4), .assign (.const (.pointer none)), none⟩])
(.seq (.reg [⟨(some 6), .fieldAddr 65 (.tmp 2) 3, none⟩,
    ⟨(some 7), .load 62 (.tmp 6), none⟩,
    ⟨(some 8), .makeFunc (Fn.func 185) #[] #[(.tmp 3)], none⟩,
    ⟨(some 9), .call ⟨(.value (.func 184)), #[(.tmp 7), (.tmp 8)], #[62, 202]⟩, none⟩,
    ⟨(some 5), .assign (.tmp 9), none⟩])
 (.seq (.seq (.reg [⟨(some 10), .move (.tmp 5), none⟩,
      ⟨(some 11), .binOp .lss 3 (.tmp 10) (.const (.int .i64 0)) 3, none⟩])
   (.cond (.tmp 11) (.seq (.reg [⟨(some 4), .assign (.const (.pointer none)), none⟩])
     .ret)
    .skip))
  (.seq (.reg [⟨(some 12), .fieldAddr 65 (.tmp 2) 3, none⟩,
      ⟨(some 13), .load 62 (.tmp 12), none⟩,
      ⟨(some 14), .move (.tmp 5), none⟩,
      ⟨(some 15), .indexAddr 62 (.tmp 13) (.tmp 14), none⟩,
      ⟨(some 4), .assign (.tmp 15), none⟩])
   .ret))))
theorem s133 : slimF Tryz.f133 = some (c133, [.t 4], 16) := by kernel_rfl
theorem o133 : okF [(184, g184)] Tryz.f133 = true := by kernel_rfl
noncomputable def g133 : Fsem := semT2 enMp (En.int .i64) (fun τ m id => τ ≠ 0) (fun n τ m id => match ruleO m id with | some b => .dptr τ [.int .i64 b.id, .int .i64 b.root, .int .i64 b.kind, .bool b.indep] | none => .nilp)
@[go_sem] theorem g133_eq {n τ : Nat} {m : Mp} {id : Int} : g133 n [.agg [.int .i64 m.epoch, .int .i64 m.term, .sl τ 2 (m.tree.devices.map (enDev.av τ)), .sl τ 3 (m.tree.buckets.map (enBkt.av τ)), .sl τ 4 (m.rules.map (enRule.av τ)), .sl τ 6 (m.pools.map (enPool.av τ)), .sl τ 1 (m.up.map (AV.int .i64)), .sl τ 1 (m.out.map (AV.int .i64))], .int .i64 id] = ⟨τ ≠ 0, match ruleO m id with | some b => .dptr τ [.int .i64 b.id, .int .i64 b.root, .int .i64 b.kind, .bool b.indep] | none => .nilp⟩ := semT2_eq (τ' := 0) (E := enMp) (F := (En.int .i64)) (seen_Mp)
theorem p133 : Pure Tryz.prog 133 g133 := by
  refine semT2_pure fun τ τ' m id n h2 hpre => ?_
  have hT : Table Tryz.prog [(184, g184)] := (.cons p184 .nil)
  have hn0 : n ≠ 0 := by omega
  refine SatP.of_body hT hm Tryz.func133 s133 o133 h2 (by simp) ?_
  have hp : τ ≠ 0 := hpre
  rcases idx_spec (fun b : Rule => decide (b.id = id)) m.rules with ⟨h1, hb⟩ | ⟨a, x, b, hl, h2, h3, hb⟩
  · simp (config := {contextual := true, maxSteps := 2000000, implicitDefEqProofs := false}) [c133, go_sem, h1, ruleO, hb]
  · have h4 : (0 : Int) ≤ a.length := by omega
    have h5 : ¬ (a.length : Int) < 0 := by omega
    have h6 : (a.length : Int) < (a.length : Int) + ((b.length : Int) + 1) := by omega
    simp only [ruleO, hb]
    simp (config := {contextual := true, maxSteps := 2000000, implicitDefEqProofs := false}) [c133, go_sem, h3]
    simp (config := {contextual := true, maxSteps := 2000000, implicitDefEqProofs := false}) [go_sem, hl, h4, h5, h6, hp]
def c178 : SCode := (.seq (.reg [⟨(some 2), .box 152 (.tmp 0), none⟩,
   ⟨(some 3), .assign (.const (.bool false)), none⟩])
(.seq (.reg [⟨(some 4), .fieldAddr 152 (.tmp 2) 0, none⟩,
    ⟨(some 5), .load 2 (.tmp 4), none⟩,
    ⟨(some 6), .load 2 (.tmp 1), none⟩,
    ⟨(some 7), .binOp .eql 2 (.tmp 5) (.tmp 6) 2, none⟩,
    ⟨(some 3), .assign (.tmp 7), none⟩])
 .ret))
theorem s178 : slimF Tryz.f178 = some (c178, [.t 3], 8) := by kernel_rfl
theorem o178 : okF [] Tryz.f178 = true := by kernel_rfl
noncomputable def g178 : Fsem := semOf (fun i : Nat × Nat × Pool × Int => [enPool.av i.1 i.2.2.1, .dptr i.2.1 [.int .i64 i.2.2.2]]) (fun _ => True) (fun _ i => .bool (decide (i.2.2.1.id = i.2.2.2)))
@[go_sem] theorem g178_eq {n τ' : Nat} {x : Pool} {i : Int} : g178 n [.agg [.int .i64 x.id, .int .i64 x.code.k, .int .i64 x.code.m, .int .i64 x.min, .int .i64 x.pgs, .int .i64 x.rule], .dptr τ' [.int .i64 i]] = ⟨True, .bool (decide (x.id = i))⟩ :=
  semOf_eq (0, τ', x, i) rfl fun ⟨_, _, y, j⟩ h => by
    obtain ⟨h1, h⟩ := cons_inj h
    obtain ⟨h2, _⟩ := cons_inj h
    have h3 : y = x := enPool.inj h1
    simp at h2
    simp [h3, h2.2]
theorem p178 : Pure Tryz.prog 178 g178 := by
  refine semOf_pure fun ⟨τ, τ', x, i⟩ n h2 _ => ?_
  refine SatP.of_body Table.nil hm Tryz.func178 s178 o178 h2 (by simp) ?_
  simp (config := {contextual := true}) [c178, go_sem]
theorem s177 : slimF Tryz.f177 = some (idxC 63 152, [.t 4], 19) := by kernel_rfl
theorem o177_178 : okF [(178, g178)] Tryz.f177 = true := by kernel_rfl
noncomputable def g177_178 : Fsem := idxSem (ι := Nat × Int) enPool 178 (fun i => [.dptr i.1 [.int .i64 i.2]]) (fun i x => decide (x.id = i.2))
@[go_sem] theorem g177_178_eq {n τ τ' : Nat} {l : List Pool} {i : Int} : g177_178 n [.sl τ 6 (l.map (enPool.av τ)), .fn 178 [.dptr τ' [.int .i64 i]]] = ⟨True, .int .i64 (idx (fun x => decide (x.id = i)) l)⟩ :=
  idxSem_eq (E := enPool) (caps := fun i : Nat × Int => [.dptr i.1 [.int .i64 i.2]]) (p := fun i x => decide (x.id = i.2)) (τ', i) (fun j h => by first | (simp at h; simp [h]; done) | (simp only [List.cons.injEq, AV.dptr.injEq, and_true] at h; skip))
theorem p177_178 : Pure Tryz.prog 177 g177_178 := idxSem_pure hm Tryz.func177 s177 o177_178 (by omega) ty_63 fit_152 p178 (fun i c hc => by simp at hc; subst hc; rfl) (fun i n τ x => by simp [go_sem])
noncomputable def g177 : Fsem := dsp [(178, g177_178)]
theorem p177 : Pure Tryz.prog 177 g177 := dsp_pure (by simp only [List.mem_cons, List.not_mem_nil, or_false, forall_eq_or_imp, forall_eq]; exact p177_178)
@[go_sem] theorem g177_dsp : g177 = dsp [(178, g177_178)] := rfl
def c131 : SCode := (.seq (.reg [⟨(some 2), .box 65 (.tmp 0), none⟩,
   ⟨(some 3), .box 2 (.tmp 1), none⟩,
   ⟨(some 4), .assign (.const (.pointer none)), none⟩])
(.seq (.reg [⟨(some 6), .fieldAddr 65 (.tmp 2) 4, none⟩,
    ⟨(some 7), .load 63 (.tmp 6), none⟩,
    ⟨(some 8), .makeFunc (Fn.func 178) #[] #[(.tmp 3)], none⟩,
    ⟨(some 9), .call ⟨(.value (.func 177)), #[(.tmp 7), (.tmp 8)], #[63, 148]⟩, none⟩,
    ⟨(some 5), .assign (.tmp 9), none⟩])
 (.seq (.seq (.reg [⟨(some 10), .move (.tmp 5), none⟩,
      ⟨(some 11), .binOp .lss 3 (.tmp 10) (.const (.int .i64 0)) 3, none⟩])
   (.cond (.tmp 11) (.seq (.reg [⟨(some 4), .assign (.const (.pointer none)), none⟩])
     .ret)
    .skip))
  (.seq (.reg [⟨(some 12), .fieldAddr 65 (.tmp 2) 4, none⟩,
      ⟨(some 13), .load 63 (.tmp 12), none⟩,
      ⟨(some 14), .move (.tmp 5), none⟩,
      ⟨(some 15), .indexAddr 63 (.tmp 13) (.tmp 14), none⟩,
      ⟨(some 4), .assign (.tmp 15), none⟩])
   .ret))))
theorem s131 : slimF Tryz.f131 = some (c131, [.t 4], 16) := by kernel_rfl
theorem o131 : okF [(177, g177)] Tryz.f131 = true := by kernel_rfl
noncomputable def g131 : Fsem := semT2 enMp (En.int .i64) (fun τ m id => τ ≠ 0) (fun n τ m id => match poolO m id with | some b => .dptr τ [.int .i64 b.id, .int .i64 b.code.k, .int .i64 b.code.m, .int .i64 b.min, .int .i64 b.pgs, .int .i64 b.rule] | none => .nilp)
@[go_sem] theorem g131_eq {n τ : Nat} {m : Mp} {id : Int} : g131 n [.agg [.int .i64 m.epoch, .int .i64 m.term, .sl τ 2 (m.tree.devices.map (enDev.av τ)), .sl τ 3 (m.tree.buckets.map (enBkt.av τ)), .sl τ 4 (m.rules.map (enRule.av τ)), .sl τ 6 (m.pools.map (enPool.av τ)), .sl τ 1 (m.up.map (AV.int .i64)), .sl τ 1 (m.out.map (AV.int .i64))], .int .i64 id] = ⟨τ ≠ 0, match poolO m id with | some b => .dptr τ [.int .i64 b.id, .int .i64 b.code.k, .int .i64 b.code.m, .int .i64 b.min, .int .i64 b.pgs, .int .i64 b.rule] | none => .nilp⟩ := semT2_eq (τ' := 0) (E := enMp) (F := (En.int .i64)) (seen_Mp)
theorem p131 : Pure Tryz.prog 131 g131 := by
  refine semT2_pure fun τ τ' m id n h2 hpre => ?_
  have hT : Table Tryz.prog [(177, g177)] := (.cons p177 .nil)
  have hn0 : n ≠ 0 := by omega
  refine SatP.of_body hT hm Tryz.func131 s131 o131 h2 (by simp) ?_
  have hp : τ ≠ 0 := hpre
  rcases idx_spec (fun b : Pool => decide (b.id = id)) m.pools with ⟨h1, hb⟩ | ⟨a, x, b, hl, h2, h3, hb⟩
  · simp (config := {contextual := true, maxSteps := 2000000, implicitDefEqProofs := false}) [c131, go_sem, h1, poolO, hb]
  · have h4 : (0 : Int) ≤ a.length := by omega
    have h5 : ¬ (a.length : Int) < 0 := by omega
    have h6 : (a.length : Int) < (a.length : Int) + ((b.length : Int) + 1) := by omega
    simp only [poolO, hb]
    simp (config := {contextual := true, maxSteps := 2000000, implicitDefEqProofs := false}) [c131, go_sem, h3]
    simp (config := {contextual := true, maxSteps := 2000000, implicitDefEqProofs := false}) [go_sem, hl, h4, h5, h6, hp]
end Go.Ve
namespace Go.Ve
open Go.Proofs Go.RowKit Go.Lib Go.Sort Go.Shelf
set_option linter.unusedVariables false
set_option linter.unusedSimpArgs false
set_option maxRecDepth 100000
set_option maxHeartbeats 4000000
theorem o112 : okF [] Tryz.f112 = true := by kernel_rfl
theorem clone_nil (n c : Nat) (w : World) : Calls Tryz.prog 112 #[.slice none n c] w fun e w' => e = .returned (.slice none 0 0) ∧ w' = w := by
  have q22 : ∀ (w : World) (a : Option Addr) (n c n' c' : Nat), (binOp .eql 28 (.slice a n c) (.slice none n' c')).run Tryz.prog w = .ok (.bool a.isNone) w := fun w a n c n' c' => Lib.run_eql_slice_nil w _ _ a n c n' c' Tryz.underlying28
  go_enter Tryz.func112, Tryz.ntmps112
  go_wp2
  go_ret
  exact ⟨rfl, rfl⟩
theorem clone_calls (a : Addr) (n c : Nat) (news : List Value) (w : World) (hl : news.length = n * 1) (hn : n ≤ maxLen) (hbig : n * 8 ≤ 140737488355328) (hc : ∀ (j : Nat) (u : Value), news[j]? = some u → w.cell? (a.add j) = some u) (h1 : ∀ u ∈ news, u.oneCell' = true) :
    Calls Tryz.prog 112 #[.slice (some a) n c] w fun e w' => ∃ v', e = .returned v' ∧ w'.ownsRow w.heap.size 2 1 v' n news ∧ Below w.heap.size w w' := by
  have q22 : ∀ (w : World) (a : Option Addr) (n c n' c' : Nat), (binOp .eql 28 (.slice a n c) (.slice none n' c')).run Tryz.prog w = .ok (.bool a.isNone) w := fun w a n c n' c' => Lib.run_eql_slice_nil w _ _ a n c n' c' Tryz.underlying28
  have u22 : ∀ w, Sem.run Tryz.prog (underlying 28) w = .ok (TypeDesc.slice 2) w := run_underlying Tryz.underlying28
  obtain ⟨i0, hi, hz0, hz1, hz2⟩ : ∃ i, Tryz.prog.info? 2 = some i ∧ i.zero = some (.int .i64 0) ∧ i.size = 1 ∧ i.bytes = 8 := ⟨_, rfl, rfl, rfl, rfl⟩
  have B : Aside (∀ (j : Nat) (u : Value), news[j]? = some u → w.cell? (a.add j) = some u) := hc
  clear hc
  go_enter Tryz.func112, Tryz.ntmps112
  go_wp2_with (at_builtin; refine wpList_append_own _ rfl _ _ 28 rfl w.heap.size 2 i0 (.int .i64 0) 1 8 Tryz.underlying28 hi hz0 hz1 hz2 rfl (by decide) _ _ _ rfl (World.ownsRow_made w #[] 0 (Nat.le_refl _) (Nat.zero_le _) (by simp)) a n c news rfl ?qc1 ?qc2 ?qc3 ?qc4 ?qc5 ?qc6 ?_)
  case qc1 => exact hl
  case qc2 =>
    intro j u hj
    exact Lib.cell?_alloc_some _ (B.out j u hj)
  case qc3 => exact h1
  case qc4 => rw [Nat.zero_add]; exact hn
  case qc5 => rw [Nat.zero_add]; exact hbig
  case qc6 => simp
  intro v' w1 hown hgrow hnil
  go_wp2
  go_ret
  refine ⟨v', rfl, by simpa using hown, ?_⟩
  exact ((Below.refl _ w).alloc (Nat.le_refl _) _).grown hgrow (by simp) (by intro k hk; simp [Value.ownBlock] at hk; omega)
theorem sat_clone {n τ : Nat} {l : List Int} (hl : l.length ≤ 1048576) : SatM Tryz.prog n 112 [] [.sl τ 1 (l.map (AV.int .i64))] [.row 2 1 (l.map (AV.int .i64))] (.osl 0 1 0 l.length) := by
  refine SatM.of_own (enters_of Tryz.func112 o112) fun W D β vs hlt hvl ha => ?_
  obtain ⟨v0, rfl⟩ : ∃ v0, vs = [v0] := by
    match vs, hvl with
    | [a], _ => exact ⟨a, rfl⟩
  obtain ⟨u0, e0, hu0⟩ := ha 0 _ rfl
  simp only [List.getElem?_cons_zero, Option.some.injEq] at e0
  subst e0
  have key : ∀ (a : Addr) (c : Nat) (xs : List Int), xs = l → (∀ (j : Nat) (u : Value), (l.map (Value.int .i64))[j]? = some u → W.cell? (a.add j) = some u) → Calls Tryz.prog 112 #[.slice (some a) l.length c] W fun e W' => ∃ v', e = .returned v' ∧ W'.ownsRow W.heap.size 2 1 v' l.length (l.map (Value.int .i64)) ∧ Below W.heap.size W W' := fun a c _ _ h =>
    clone_calls a l.length c (l.map (Value.int .i64)) W (by simp) (by unfold maxLen; omega) (by omega) h (fun u hu => by obtain ⟨z, _, rfl⟩ := List.mem_map.1 hu; rfl)
  cases hu0 with
  | data _ _ hd =>
  generalize hxs : l.map (AV.int .i64) = xs at hd
  cases hd with
  | sl0 B cap τ w =>
    obtain rfl : l = [] := by simpa using hxs
    cases B with
    | none =>
      refine (clone_nil 0 cap W).mono ?_
      rintro e W' ⟨rfl, rfl⟩
      exact ⟨_, rfl, ⟨rfl, .inl ⟨rfl, rfl⟩⟩, .refl _ _⟩
    | some a => exact key a cap [] rfl (fun j u h => by simp at h)
  | sl a cap τ w xs u hs hD hc hm hw hu hr =>
    subst hxs
    rw [List.length_map]
    refine key a cap l rfl fun j v hv => ?_
    rw [List.getElem?_map, Option.map_eq_some_iff] at hv
    obtain ⟨z, hz, rfl⟩ := hv
    have h1 := hu j (.int .i64 z) 0 (.int .i64 z) (by simp [hz]) rfl
    have h2 := hr j (.int .i64 z) 0 (.int .i64 z) (by simp [hz]) rfl
    generalize u j 0 = q at h1 h2
    cases h2
    obtain ⟨blk, off, spot⟩ := a
    simp only at hs
    subst hs
    rw [add_none]
    simpa using h1
shelf_lay_g SlLaysN.n53 Slgn 53 at Tryz 152 as sortLay
theorem o152 : okF [] Tryz.f152 = true := by kernel_rfl
theorem sat_sort {n : Nat} {l : List Int} (hl : l.length ≤ 1048576) : SatM Tryz.prog n 152 [.row 2 1 (l.map (AV.int .i64))] [.osl 0 1 0 l.length] [.row 2 1 ((l.mergeSort fun x y => decide (x ≤ y)).map (AV.int .i64))] (.tup []) := by
  have h := SatM.of_put (P := Tryz.prog) (f := 152) (n := n) (t := 2) (l := l) (arr := l.mergeSort fun x y => decide (x ≤ y)) (rest := []) (k := none) (enters_of Tryz.func152 o152) (by simp) (Nat.le_refl _) (fun x hx => by cases hx) ?_ ?_
  · have e : (l.mergeSort fun x y => decide (x ≤ y)).take l.length = l.mergeSort fun x y => decide (x ≤ y) := List.take_of_length_le (by simp)
    simp only [cutN, cutA, e] at h
    exact h
  · intro W D β vs g cap cur hvl _ _ _ hh ht hlc hcap hsz
    obtain rfl : vs = [] := List.length_eq_zero_iff.1 hvl
    have hcon := AnyG.slices_Sort_int sortLay g 0 cap l W (holds_of_blockI hh ht) (Array.getElem?_eq_some_iff.1 hh).1 (by omega)
    exact hcon
  · intro W D β vs hl0 hvl _ _
    subst hl0
    obtain rfl : vs = [] := List.length_eq_zero_iff.1 hvl
    have hcon := AnyG.slices_Sort_int_none sortLay none 0 W
    refine Calls.mono hcon ?_
    rintro e W' ⟨rfl, rfl⟩
    exact ⟨rfl, .refl _ _⟩
end Go.Ve
