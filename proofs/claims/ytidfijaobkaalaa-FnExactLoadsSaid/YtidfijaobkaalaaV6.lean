/- Contracts of the seat: trees, the reference. No condition. -/
import Derived.Test.YtidfijaobkaalaaV5
namespace Go.Ve
open Go.Proofs Go.RowKit
set_option linter.unusedVariables false
set_option linter.unusedSimpArgs false
set_option maxRecDepth 10000
set_option maxHeartbeats 4000000
def bkt0 (o : Option Bkt) (b : Bkt) : Bool := btw b.id (-12) (-1) && btw b.kind 1 3 && decide (b.items.length ≤ 8) && (match o with
  | some y => decide (b.id < y.id)
  | none => true)
def bktsOk (t : Tree) : Bool := chk bkt0 none t.buckets && decide (t.buckets.length ≤ 12)
/-- None twice. -/
def onceL : List Int → List Int → Bool
  | _, [] => true
  | s, x :: l => !has s x && onceL (s ++ [x]) l
def small (t : Tree) : Prop := t.buckets.length ≤ 12 ∧ ∀ b ∈ t.buckets, b.items.length ≤ 8
def treeOk (t : Tree) : Bool := devsOk t && bktsOk t && onceL [] (t.buckets.flatMap (·.items)) && t.buckets.all (fitsOk t)
theorem chk_small {o : Option Bkt} : ∀ {l : List Bkt}, chk bkt0 o l = true → ∀ b ∈ l, b.items.length ≤ 8 := by
  intro l
  induction l generalizing o with
  | nil => intro _ b hb; cases hb
  | cons x l ih =>
    intro h b hb
    simp only [chk, Bool.and_eq_true] at h
    rcases List.mem_cons.1 hb with rfl | hb
    · have := h.1
      simp only [bkt0, Bool.and_eq_true, decide_eq_true_eq] at this
      exact this.1.2
    · exact ih h.2 b hb
@[go_sem] theorem take_map_len {α β : Type} {f : α → β} {l : List α} : (l.map f).take l.length = l.map f := List.take_of_length_le (by simp)
theorem small_of {t : Tree} (h : bktsOk t = true) : small t := by
  simp only [bktsOk, Bool.and_eq_true, decide_eq_true_eq] at h
  exact ⟨h.2, chk_small h.1⟩

/- spec.l06Devices -/
def c99 : SCode := (.seq (.reg [⟨(some 1), .box 36 (.tmp 0), none⟩,
   ⟨(some 2), .assign (.const (.bool false)), none⟩])
(.seq (.seq (.reg [⟨(some 5), .fieldAddr 36 (.tmp 1) 0, none⟩,
     ⟨(some 6), .load 33 (.tmp 5), none⟩,
     ⟨(some 7), .call ⟨(.builtin .len), #[(.tmp 6)], #[33]⟩, none⟩,
     ⟨(some 8), .binOp .gtr 3 (.tmp 7) (.const (.int .i64 16)) 3, none⟩])
  (.cond (.tmp 8) (.seq (.reg [⟨(some 2), .assign (.const (.bool false)), none⟩])
    .ret)
   .skip))
 (.seq (.seq (.reg [⟨(some 3), .assign (.const (.int .i64 0)), none⟩])
   (.block 0 (.loop (.seq (.seq (.reg [⟨(some 9), .move (.tmp 3), none⟩,
          ⟨(some 10), .fieldAddr 36 (.tmp 1) 0, none⟩,
          ⟨(some 11), .load 33 (.tmp 10), none⟩,
          ⟨(some 12), .call ⟨(.builtin .len), #[(.tmp 11)], #[33]⟩, none⟩,
          ⟨(some 13), .binOp .lss 3 (.tmp 9) (.tmp 12) 3, none⟩])
       (.cond (.tmp 13) .skip
        (.exit 0)))
      (.seq (.block 1 (.seq (.reg [⟨(some 16), .fieldAddr 36 (.tmp 1) 0, none⟩,
            ⟨(some 17), .load 33 (.tmp 16), none⟩,
            ⟨(some 18), .move (.tmp 3), none⟩,
            ⟨(some 19), .indexAddr 33 (.tmp 17) (.tmp 18), none⟩,
            ⟨(some 20), .load 125 (.tmp 19), none⟩,
            ⟨(some 4), .alloc 125, none⟩,
            ⟨none, .store 125 (.tmp 4) (.tmp 20), none⟩])
         (.seq (.draw [⟨(some 21), .fieldAddr 125 (.tmp 4) 0, none⟩,
             ⟨(some 22), .load 2 (.tmp 21), none⟩,
             ⟨(some 23), .call ⟨(.value (.func 73)), #[(.tmp 22), (.const (.int .i64 0)), (.const (.int .i64 15))], #[2, 2, 2]⟩, none⟩,
             ⟨(some 24), .unOp .not 4 (.tmp 23), none⟩,
             ⟨(some 25), .move (.tmp 24), none⟩,
             ⟨(some 26), .fieldAddr 125 (.tmp 4) 1, (some (25, false))⟩,
             ⟨(some 27), .load 2 (.tmp 26), (some (25, false))⟩,
             ⟨(some 28), .call ⟨(.value (.func 73)), #[(.tmp 27), (.const (.int .i64 0)), (.const (.int .i64 8))], #[2, 2, 2]⟩, (some (25, false))⟩,
             ⟨(some 29), .unOp .not 4 (.tmp 28), (some (25, false))⟩,
             ⟨(some 30), .pick (.tmp 25) (.const (.bool true)) (.tmp 29), none⟩,
             ⟨(some 31), .move (.tmp 30), none⟩,
             ⟨(some 32), .move (.tmp 3), (some (31, false))⟩,
             ⟨(some 33), .binOp .gtr 3 (.tmp 32) (.const (.int .i64 0)) 3, (some (31, false))⟩,
             ⟨(some 34), .move (.tmp 33), (some (31, false))⟩,
             ⟨(some 35), .fieldAddr 125 (.tmp 4) 0, (some (34, true))⟩,
             ⟨(some 36), .load 2 (.tmp 35), (some (34, true))⟩,
             ⟨(some 37), .fieldAddr 36 (.tmp 1) 0, (some (34, true))⟩,
             ⟨(some 38), .load 33 (.tmp 37), (some (34, true))⟩,
             ⟨(some 39), .move (.tmp 3), (some (34, true))⟩,
             ⟨(some 40), .binOp .sub 3 (.tmp 39) (.const (.int .i64 1)) 3, (some (34, true))⟩,
             ⟨(some 41), .indexAddr 33 (.tmp 38) (.tmp 40), (some (34, true))⟩,
             ⟨(some 42), .fieldAddr 125 (.tmp 41) 0, (some (34, true))⟩,
             ⟨(some 43), .load 2 (.tmp 42), (some (34, true))⟩,
             ⟨(some 44), .binOp .leq 2 (.tmp 36) (.tmp 43) 2, (some (34, true))⟩,
             ⟨(some 45), .pick (.tmp 34) (.tmp 44) (.const (.bool false)), (some (31, false))⟩,
             ⟨(some 46), .pick (.tmp 31) (.const (.bool true)) (.tmp 45), none⟩] [[], [0], [0, 1], [0, 1, 2], [0, 1, 2, 3], [0, 1, 2, 3, 4], [0, 1, 2, 3, 4, 5], [0, 1, 2, 3, 4, 5, 6], [0, 1, 2, 3, 4, 5, 6, 7], [0, 1, 2, 3, 4, 5, 6, 7, 8], [0, 1, 2, 3, 4, 5, 6, 7, 8, 9], [0, 1, 2, 3, 4, 5, 6, 7, 8, 9, 10], [0, 1, 2, 3, 4, 5, 6, 7, 8, 9, 10, 11], [0, 1, 2, 3, 4, 5, 6, 7, 8, 9, 10, 11, 12], [0, 1, 2, 3, 4, 5, 6, 7, 8, 9, 10, 11, 12, 13], [0, 1, 2, 3, 4, 5, 6, 7, 8, 9, 10, 11, 12, 13, 14], [0, 1, 2, 3, 4, 5, 6, 7, 8, 9, 10, 11, 12, 13], [0, 1, 2, 3, 4, 5, 6, 7, 8, 9, 10, 11, 12, 13, 16], [0, 1, 2, 3, 4, 5, 6, 7, 8, 9, 10, 11, 12, 13], [0, 1, 2, 3, 4, 5, 6, 7, 8, 9, 10, 11, 12, 13, 18], [0, 1, 2, 3, 4, 5, 6, 7, 8, 9, 10, 11, 12, 13, 16, 17, 18, 19], [0, 1, 2, 3, 4, 5, 6, 7, 8, 9, 10, 11, 12, 13, 16, 17, 18, 19, 20], [0, 1, 2, 3, 4, 5, 6, 7, 8, 9, 10, 11, 12, 13, 16, 17, 18, 19, 20, 21], [0, 1, 2, 3, 4, 5, 6, 7, 8, 9, 10, 11, 12, 13, 14, 15, 16, 17, 18, 19, 20, 21, 22], [0, 1, 2, 3, 4, 5, 6, 7, 8, 9, 10, 11, 12, 13, 14, 15, 16, 17, 18, 19, 20, 21, 22, 23], [0, 1, 2, 3, 4, 5, 6, 7, 8, 9, 10, 11, 12, 13, 14, 15, 16, 17, 18, 19, 20, 21, 22, 23, 24]])
          (.cond (.tmp 46) (.seq (.reg [⟨(some 2), .assign (.const (.bool false)), none⟩])
            .ret)
           .skip))))
       (.reg [⟨(some 14), .move (.tmp 3), none⟩,
          ⟨(some 15), .binOp .add 3 (.tmp 14) (.const (.int .i64 1)) 3, none⟩,
          ⟨(some 3), .assign (.tmp 15), none⟩]))))))
  (.seq (.reg [⟨(some 2), .assign (.const (.bool true)), none⟩])
   .ret))))
theorem s99 : slimF Try.f99 = some (c99, [.t 2], 47) := by kernel_rfl
theorem o99 : okF [(73, g73)] Try.f99 = true := by kernel_rfl
noncomputable def g99 : Fsem := sem1 enTree (fun t => True) (fun n t => .bool (devsOk t))
@[go_sem] theorem g99_eq {n τ : Nat} {t : Tree} : g99 n [.agg [.sl τ 2 (t.devices.map (enDev.av τ)), .sl τ 3 (t.buckets.map (enBkt.av τ))]] = ⟨True, .bool (devsOk t)⟩ := sem1_eq  (E := enTree)
theorem p99 : Pure Try.prog 99 g99 := by
  refine sem1_pure fun τ t n h2 hpre => ?_
  have hT : Table Try.prog [(73, g73)] := (.cons p73 .nil)
  have hn0 : n ≠ 0 := by omega
  refine SatP.of_body hT hm Try.func99 s99 o99 h2 (by simp) ?_
  simp only [devsOk]
  generalize hr : chk devOk none t.devices = r
  simp (config := {contextual := true, maxSteps := 2000000, implicitDefEqProofs := false}) [c99, go_sem]
  intro hL
  refine ⟨fun h => by grind, fun h => ?_⟩
  refine VW_listKe [] [1] hT h2 hm t.devices [1] (fun pre post (u0 : Unit) => [(3, .int .i64 pre.length)]) (fun pre post (u0 : Unit) => chk devOk pre.getLast? post = r) () ?_ ?_ ?_ ?_
  · exact hr
  · simp [SubE, SubR, go_sem]
  · rintro u0 hR
    simp (config := {contextual := true, maxSteps := 2000000, implicitDefEqProofs := false}) [go_sem]
    simp [chk] at hR; grind
  · rintro pre x post u0 hl hlen hR
    have hw : pre.length + (post.length + 1) ≤ maxLen → IntKind.i64.wrap ((pre.length : Int) + 1) = (pre.length : Int) + 1 := fun h => wrap_next h (by omega)
    have h3 : (0 : Int) ≤ pre.length := by omega
    have h4 : (pre.length : Int) < (pre.length : Int) + ((post.length : Int) + 1) := by omega
    have h5 : ¬ (pre.length : Int) + ((post.length : Int) + 1) ≤ (pre.length : Int) := by omega
    rcases List.eq_nil_or_concat pre with rfl | ⟨q, y, rfl⟩
    · have hw0 : IntKind.i64.wrap 1 = 1 := by decide
      simp only [chk, List.getLast?_nil, devOk, btw] at hR
      simp (config := {contextual := true, maxSteps := 2000000, implicitDefEqProofs := false}) [go_sem, hw0, ← hl, SubE, SubR, devOk, btw] <;> grind
    · have h6 : q.length + (post.length + 1 + 1) ≤ maxLen → IntKind.i64.wrap ((q.length : Int) + 1 + 1) = (q.length : Int) + 1 + 1 := fun h => wrap_ok (by omega) (by simp only [maxLen] at h; omega)
      have h7 : q.length + (post.length + 1 + 1) ≤ maxLen → IntKind.i64.wrap (q.length : Int) = (q.length : Int) := fun h => wrap_ok (by omega) (by simp only [maxLen] at h; omega)
      have h8 : (0 : Int) ≤ (q.length : Int) + 1 := by omega
      have h9 : (0 : Int) < (q.length : Int) + 1 := by omega
      have h10 : (0 : Int) ≤ (q.length : Int) := by omega
      have h11 : (q.length : Int) + 1 < (q.length : Int) + ((post.length : Int) + 1 + 1) := by omega
      have h12 : (q.length : Int) < (q.length : Int) + ((post.length : Int) + 1 + 1) := by omega
      simp only [chk, last_concat, devOk, btw] at hR
      simp (config := {contextual := true, maxSteps := 2000000, implicitDefEqProofs := false}) [go_sem, h6, h7, h8, h9, h10, h11, h12, ← hl, SubE, SubR, devOk, btw] <;> grind
/- spec.l06Buckets -/
def c100 : SCode := (.seq (.reg [⟨(some 1), .box 36 (.tmp 0), none⟩,
   ⟨(some 2), .assign (.const (.bool false)), none⟩])
(.seq (.seq (.reg [⟨(some 5), .fieldAddr 36 (.tmp 1) 1, none⟩,
     ⟨(some 6), .load 34 (.tmp 5), none⟩,
     ⟨(some 7), .call ⟨(.builtin .len), #[(.tmp 6)], #[34]⟩, none⟩,
     ⟨(some 8), .binOp .gtr 3 (.tmp 7) (.const (.int .i64 12)) 3, none⟩])
  (.cond (.tmp 8) (.seq (.reg [⟨(some 2), .assign (.const (.bool false)), none⟩])
    .ret)
   .skip))
 (.seq (.seq (.reg [⟨(some 3), .assign (.const (.int .i64 0)), none⟩])
   (.block 0 (.loop (.seq (.seq (.reg [⟨(some 9), .move (.tmp 3), none⟩,
          ⟨(some 10), .fieldAddr 36 (.tmp 1) 1, none⟩,
          ⟨(some 11), .load 34 (.tmp 10), none⟩,
          ⟨(some 12), .call ⟨(.builtin .len), #[(.tmp 11)], #[34]⟩, none⟩,
          ⟨(some 13), .binOp .lss 3 (.tmp 9) (.tmp 12) 3, none⟩])
       (.cond (.tmp 13) .skip
        (.exit 0)))
      (.seq (.block 1 (.seq (.reg [⟨(some 16), .fieldAddr 36 (.tmp 1) 1, none⟩,
            ⟨(some 17), .load 34 (.tmp 16), none⟩,
            ⟨(some 18), .move (.tmp 3), none⟩,
            ⟨(some 19), .indexAddr 34 (.tmp 17) (.tmp 18), none⟩,
            ⟨(some 20), .load 115 (.tmp 19), none⟩,
            ⟨(some 4), .alloc 115, none⟩,
            ⟨none, .store 115 (.tmp 4) (.tmp 20), none⟩])
         (.seq (.draw [⟨(some 21), .fieldAddr 115 (.tmp 4) 0, none⟩,
             ⟨(some 22), .load 2 (.tmp 21), none⟩,
             ⟨(some 23), .call ⟨(.value (.func 73)), #[(.tmp 22), (.const (.int .i64 (-12))), (.const (.int .i64 (-1)))], #[2, 2, 2]⟩, none⟩,
             ⟨(some 24), .unOp .not 4 (.tmp 23), none⟩,
             ⟨(some 25), .move (.tmp 24), none⟩,
             ⟨(some 26), .fieldAddr 115 (.tmp 4) 1, (some (25, false))⟩,
             ⟨(some 27), .load 2 (.tmp 26), (some (25, false))⟩,
             ⟨(some 28), .call ⟨(.value (.func 73)), #[(.tmp 27), (.const (.int .i64 1)), (.const (.int .i64 3))], #[2, 2, 2]⟩, (some (25, false))⟩,
             ⟨(some 29), .unOp .not 4 (.tmp 28), (some (25, false))⟩,
             ⟨(some 30), .pick (.tmp 25) (.const (.bool true)) (.tmp 29), none⟩,
             ⟨(some 31), .move (.tmp 30), none⟩,
             ⟨(some 32), .fieldAddr 115 (.tmp 4) 2, (some (31, false))⟩,
             ⟨(some 33), .load 28 (.tmp 32), (some (31, false))⟩,
             ⟨(some 34), .call ⟨(.builtin .len), #[(.tmp 33)], #[28]⟩, (some (31, false))⟩,
             ⟨(some 35), .binOp .gtr 3 (.tmp 34) (.const (.int .i64 8)) 3, (some (31, false))⟩,
             ⟨(some 36), .pick (.tmp 31) (.const (.bool true)) (.tmp 35), none⟩,
             ⟨(some 37), .move (.tmp 36), none⟩,
             ⟨(some 38), .move (.tmp 3), (some (37, false))⟩,
             ⟨(some 39), .binOp .gtr 3 (.tmp 38) (.const (.int .i64 0)) 3, (some (37, false))⟩,
             ⟨(some 40), .move (.tmp 39), (some (37, false))⟩,
             ⟨(some 41), .fieldAddr 115 (.tmp 4) 0, (some (40, true))⟩,
             ⟨(some 42), .load 2 (.tmp 41), (some (40, true))⟩,
             ⟨(some 43), .fieldAddr 36 (.tmp 1) 1, (some (40, true))⟩,
             ⟨(some 44), .load 34 (.tmp 43), (some (40, true))⟩,
             ⟨(some 45), .move (.tmp 3), (some (40, true))⟩,
             ⟨(some 46), .binOp .sub 3 (.tmp 45) (.const (.int .i64 1)) 3, (some (40, true))⟩,
             ⟨(some 47), .indexAddr 34 (.tmp 44) (.tmp 46), (some (40, true))⟩,
             ⟨(some 48), .fieldAddr 115 (.tmp 47) 0, (some (40, true))⟩,
             ⟨(some 49), .load 2 (.tmp 48), (some (40, true))⟩,
             ⟨(some 50), .binOp .geq 2 (.tmp 42) (.tmp 49) 2, (some (40, true))⟩,
             ⟨(some 51), .pick (.tmp 40) (.tmp 50) (.const (.bool false)), (some (37, false))⟩,
             ⟨(some 52), .pick (.tmp 37) (.const (.bool true)) (.tmp 51), none⟩] [[], [0], [0, 1], [0, 1, 2], [0, 1, 2, 3], [0, 1, 2, 3, 4], [0, 1, 2, 3, 4, 5], [0, 1, 2, 3, 4, 5, 6], [0, 1, 2, 3, 4, 5, 6, 7], [0, 1, 2, 3, 4, 5, 6, 7, 8], [0, 1, 2, 3, 4, 5, 6, 7, 8, 9], [0, 1, 2, 3, 4, 5, 6, 7, 8, 9, 10], [0, 1, 2, 3, 4, 5, 6, 7, 8, 9, 10, 11], [0, 1, 2, 3, 4, 5, 6, 7, 8, 9, 10, 11, 12], [0, 1, 2, 3, 4, 5, 6, 7, 8, 9, 10, 11, 12, 13], [0, 1, 2, 3, 4, 5, 6, 7, 8, 9, 10, 11, 12, 13, 14], [0, 1, 2, 3, 4, 5, 6, 7, 8, 9, 10, 11, 12, 13, 14, 15], [0, 1, 2, 3, 4, 5, 6, 7, 8, 9, 10, 11, 12, 13, 14, 15, 16], [0, 1, 2, 3, 4, 5, 6, 7, 8, 9, 10, 11, 12, 13, 14, 15, 16, 17], [0, 1, 2, 3, 4, 5, 6, 7, 8, 9, 10, 11, 12, 13, 14, 15, 16, 17, 18], [0, 1, 2, 3, 4, 5, 6, 7, 8, 9, 10, 11, 12, 13, 14, 15, 16, 17, 18, 19], [0, 1, 2, 3, 4, 5, 6, 7, 8, 9, 10, 11, 12, 13, 14, 15, 16, 17, 18, 19, 20], [0, 1, 2, 3, 4, 5, 6, 7, 8, 9, 10, 11, 12, 13, 14, 15, 16, 17, 18, 19], [0, 1, 2, 3, 4, 5, 6, 7, 8, 9, 10, 11, 12, 13, 14, 15, 16, 17, 18, 19, 22], [0, 1, 2, 3, 4, 5, 6, 7, 8, 9, 10, 11, 12, 13, 14, 15, 16, 17, 18, 19], [0, 1, 2, 3, 4, 5, 6, 7, 8, 9, 10, 11, 12, 13, 14, 15, 16, 17, 18, 19, 24], [0, 1, 2, 3, 4, 5, 6, 7, 8, 9, 10, 11, 12, 13, 14, 15, 16, 17, 18, 19, 22, 23, 24, 25], [0, 1, 2, 3, 4, 5, 6, 7, 8, 9, 10, 11, 12, 13, 14, 15, 16, 17, 18, 19, 22, 23, 24, 25, 26], [0, 1, 2, 3, 4, 5, 6, 7, 8, 9, 10, 11, 12, 13, 14, 15, 16, 17, 18, 19, 22, 23, 24, 25, 26, 27], [0, 1, 2, 3, 4, 5, 6, 7, 8, 9, 10, 11, 12, 13, 14, 15, 16, 17, 18, 19, 20, 21, 22, 23, 24, 25, 26, 27, 28], [0, 1, 2, 3, 4, 5, 6, 7, 8, 9, 10, 11, 12, 13, 14, 15, 16, 17, 18, 19, 20, 21, 22, 23, 24, 25, 26, 27, 28, 29], [0, 1, 2, 3, 4, 5, 6, 7, 8, 9, 10, 11, 12, 13, 14, 15, 16, 17, 18, 19, 20, 21, 22, 23, 24, 25, 26, 27, 28, 29, 30]])
          (.cond (.tmp 52) (.seq (.reg [⟨(some 2), .assign (.const (.bool false)), none⟩])
            .ret)
           .skip))))
       (.reg [⟨(some 14), .move (.tmp 3), none⟩,
          ⟨(some 15), .binOp .add 3 (.tmp 14) (.const (.int .i64 1)) 3, none⟩,
          ⟨(some 3), .assign (.tmp 15), none⟩]))))))
  (.seq (.reg [⟨(some 2), .assign (.const (.bool true)), none⟩])
   .ret))))
theorem s100 : slimF Try.f100 = some (c100, [.t 2], 53) := by kernel_rfl
theorem o100 : okF [(73, g73)] Try.f100 = true := by kernel_rfl
noncomputable def g100 : Fsem := sem1 enTree (fun t => True) (fun n t => .bool (bktsOk t))
@[go_sem] theorem g100_eq {n τ : Nat} {t : Tree} : g100 n [.agg [.sl τ 2 (t.devices.map (enDev.av τ)), .sl τ 3 (t.buckets.map (enBkt.av τ))]] = ⟨True, .bool (bktsOk t)⟩ := sem1_eq  (E := enTree)
theorem p100 : Pure Try.prog 100 g100 := by
  refine sem1_pure fun τ t n h2 hpre => ?_
  have hT : Table Try.prog [(73, g73)] := (.cons p73 .nil)
  have hn0 : n ≠ 0 := by omega
  refine SatP.of_body hT hm Try.func100 s100 o100 h2 (by simp) ?_
  simp only [bktsOk]
  generalize hr : chk bkt0 none t.buckets = r
  simp (config := {contextual := true, maxSteps := 2000000, implicitDefEqProofs := false}) [c100, go_sem]
  intro hL
  refine ⟨fun h => by grind, fun h => ?_⟩
  refine VW_listKe [] [1] hT h2 hm t.buckets [1] (fun pre post (u0 : Unit) => [(3, .int .i64 pre.length)]) (fun pre post (u0 : Unit) => chk bkt0 pre.getLast? post = r) () ?_ ?_ ?_ ?_
  · exact hr
  · simp [SubE, SubR, go_sem]
  · rintro u0 hR
    simp (config := {contextual := true, maxSteps := 2000000, implicitDefEqProofs := false}) [go_sem]
    simp [chk] at hR; grind
  · rintro pre x post u0 hl hlen hR
    have hw : pre.length + (post.length + 1) ≤ maxLen → IntKind.i64.wrap ((pre.length : Int) + 1) = (pre.length : Int) + 1 := fun h => wrap_next h (by omega)
    have h3 : (0 : Int) ≤ pre.length := by omega
    have h4 : (pre.length : Int) < (pre.length : Int) + ((post.length : Int) + 1) := by omega
    have h5 : ¬ (pre.length : Int) + ((post.length : Int) + 1) ≤ (pre.length : Int) := by omega
    rcases List.eq_nil_or_concat pre with rfl | ⟨q, y, rfl⟩
    · have hw0 : IntKind.i64.wrap 1 = 1 := by decide
      simp only [chk, List.getLast?_nil, bkt0, btw] at hR
      simp (config := {contextual := true, maxSteps := 2000000, implicitDefEqProofs := false}) [go_sem, hw0, ← hl, SubE, SubR, bkt0, btw] <;> grind
    · have h6 : q.length + (post.length + 1 + 1) ≤ maxLen → IntKind.i64.wrap ((q.length : Int) + 1 + 1) = (q.length : Int) + 1 + 1 := fun h => wrap_ok (by omega) (by simp only [maxLen] at h; omega)
      have h7 : q.length + (post.length + 1 + 1) ≤ maxLen → IntKind.i64.wrap (q.length : Int) = (q.length : Int) := fun h => wrap_ok (by omega) (by simp only [maxLen] at h; omega)
      have h8 : (0 : Int) ≤ (q.length : Int) + 1 := by omega
      have h9 : (0 : Int) < (q.length : Int) + 1 := by omega
      have h10 : (0 : Int) ≤ (q.length : Int) := by omega
      have h11 : (q.length : Int) + 1 < (q.length : Int) + ((post.length : Int) + 1 + 1) := by omega
      have h12 : (q.length : Int) < (q.length : Int) + ((post.length : Int) + 1 + 1) := by omega
      simp only [chk, last_concat, bkt0, btw] at hR
      simp (config := {contextual := true, maxSteps := 2000000, implicitDefEqProofs := false}) [go_sem, h6, h7, h8, h9, h10, h11, h12, ← hl, SubE, SubR, bkt0, btw] <;> grind
/- spec.l06Once -/
def c101 : SCode := (.seq (.reg [⟨(some 1), .box 36 (.tmp 0), none⟩,
   ⟨(some 2), .assign (.const (.bool false)), none⟩])
(.seq (.reg [⟨(some 7), .buildSlice 28 0 #[], none⟩,
    ⟨(some 3), .assign (.tmp 7), none⟩])
 (.seq (.seq (.reg [⟨(some 4), .assign (.const (.int .i64 0)), none⟩])
   (.block 0 (.loop (.seq (.seq (.reg [⟨(some 8), .move (.tmp 4), none⟩,
          ⟨(some 9), .fieldAddr 36 (.tmp 1) 1, none⟩,
          ⟨(some 10), .load 34 (.tmp 9), none⟩,
          ⟨(some 11), .call ⟨(.builtin .len), #[(.tmp 10)], #[34]⟩, none⟩,
          ⟨(some 12), .binOp .lss 3 (.tmp 8) (.tmp 11) 3, none⟩])
       (.cond (.tmp 12) .skip
        (.exit 0)))
      (.seq (.block 1 (.seq (.reg [⟨(some 5), .assign (.const (.int .i64 0)), none⟩])
         (.block 2 (.loop (.seq (.seq (.reg [⟨(some 15), .move (.tmp 5), none⟩,
                ⟨(some 16), .fieldAddr 36 (.tmp 1) 1, none⟩,
                ⟨(some 17), .load 34 (.tmp 16), none⟩,
                ⟨(some 18), .move (.tmp 4), none⟩,
                ⟨(some 19), .indexAddr 34 (.tmp 17) (.tmp 18), none⟩,
                ⟨(some 20), .fieldAddr 115 (.tmp 19) 2, none⟩,
                ⟨(some 21), .load 28 (.tmp 20), none⟩,
                ⟨(some 22), .call ⟨(.builtin .len), #[(.tmp 21)], #[28]⟩, none⟩,
                ⟨(some 23), .binOp .lss 3 (.tmp 15) (.tmp 22) 3, none⟩])
             (.cond (.tmp 23) .skip
              (.exit 2)))
            (.seq (.block 3 (.seq (.reg [⟨(some 26), .fieldAddr 36 (.tmp 1) 1, none⟩,
                  ⟨(some 27), .load 34 (.tmp 26), none⟩,
                  ⟨(some 28), .move (.tmp 4), none⟩,
                  ⟨(some 29), .indexAddr 34 (.tmp 27) (.tmp 28), none⟩,
                  ⟨(some 30), .fieldAddr 115 (.tmp 29) 2, none⟩,
                  ⟨(some 31), .load 28 (.tmp 30), none⟩,
                  ⟨(some 32), .move (.tmp 5), none⟩,
                  ⟨(some 33), .indexAddr 28 (.tmp 31) (.tmp 32), none⟩,
                  ⟨(some 34), .load 2 (.tmp 33), none⟩,
                  ⟨(some 6), .assign (.tmp 34), none⟩])
               (.seq (.seq (.reg [⟨(some 35), .move (.tmp 3), none⟩,
                    ⟨(some 36), .move (.tmp 6), none⟩,
                    ⟨(some 37), .call ⟨(.value (.func 129)), #[(.tmp 35), (.tmp 36)], #[28, 2]⟩, none⟩])
                 (.cond (.tmp 37) (.seq (.reg [⟨(some 2), .assign (.const (.bool false)), none⟩])
                   .ret)
                  .skip))
                (.reg [⟨(some 38), .move (.tmp 3), none⟩,
                   ⟨(some 39), .move (.tmp 6), none⟩,
                   ⟨(some 40), .buildSlice 28 1 #[(0, (.tmp 39))], none⟩,
                   ⟨(some 41), .call ⟨(.builtin .append), #[(.tmp 38), (.tmp 40)], #[28, 28]⟩, none⟩,
                   ⟨(some 3), .assign (.tmp 41), none⟩]))))
             (.reg [⟨(some 24), .move (.tmp 5), none⟩,
                ⟨(some 25), .binOp .add 3 (.tmp 24) (.const (.int .i64 1)) 3, none⟩,
                ⟨(some 5), .assign (.tmp 25), none⟩])))))))
       (.reg [⟨(some 13), .move (.tmp 4), none⟩,
          ⟨(some 14), .binOp .add 3 (.tmp 13) (.const (.int .i64 1)) 3, none⟩,
          ⟨(some 4), .assign (.tmp 14), none⟩]))))))
  (.seq (.reg [⟨(some 2), .assign (.const (.bool true)), none⟩])
   .ret))))
theorem s101 : slimF Try.f101 = some (c101, [.t 2], 42) := by kernel_rfl
theorem o101 : okF [(129, g129)] Try.f101 = true := by kernel_rfl
noncomputable def g101 : Fsem := sem1 enTree (fun t => small t) (fun n t => .bool (onceL [] (t.buckets.flatMap (·.items))))
@[go_sem] theorem g101_eq {n τ : Nat} {t : Tree} : g101 n [.agg [.sl τ 2 (t.devices.map (enDev.av τ)), .sl τ 3 (t.buckets.map (enBkt.av τ))]] = ⟨small t, .bool (onceL [] (t.buckets.flatMap (·.items)))⟩ := sem1_eq  (E := enTree)
theorem p101 : Pure Try.prog 101 g101 := by
  refine sem1_pure fun τ t n h2 hpre => ?_
  have hT : Table Try.prog [(129, g129)] := (.cons p129 .nil)
  have hn0 : n ≠ 0 := by omega
  refine SatP.of_body hT hm Try.func101 s101 o101 h2 (by simp) ?_
  obtain ⟨hs1, hs2⟩ := hpre
  generalize hr : onceL [] (t.buckets.flatMap (·.items)) = r
  simp (config := {contextual := true, maxSteps := 2000000, implicitDefEqProofs := false}) [c101, go_sem]
  refine VW_listKE [] [1, 3] hT h2 hm t.buckets [1] (fun pre post (sn : List Int) => [.box 36 [.sl τ 2 (t.devices.map (enDev.av τ)), .sl τ 3 (t.buckets.map (enBkt.av τ))], .row 2 1 (sn.map (AV.int .i64))]) (fun pre post (sn : List Int) => [(4, .int .i64 pre.length), (3, .osl 1 1 0 sn.length)]) (fun pre post (sn : List Int) => onceL sn (post.flatMap (·.items)) = r ∧ sn.length ≤ 8 * pre.length) [] ?_ ?_ ?_ ?_
  · exact ⟨hr, by simp⟩
  · simp [SubE, SubR, go_sem]
  · rintro sn ⟨hR, hR2⟩
    simp (config := {contextual := true, maxSteps := 2000000, implicitDefEqProofs := false}) [go_sem]
    simp [onceL] at hR
    grind
  · rintro pre0 x rest sn hl hlen ⟨hR, hR2⟩
    have hw : pre0.length + (rest.length + 1) ≤ maxLen → IntKind.i64.wrap ((pre0.length : Int) + 1) = (pre0.length : Int) + 1 := fun h => wrap_next h (by omega)
    have h3 : (0 : Int) ≤ pre0.length := by omega
    have h4 : (pre0.length : Int) < (pre0.length : Int) + ((rest.length : Int) + 1) := by omega
    have h5 : ¬ (pre0.length : Int) + ((rest.length : Int) + 1) ≤ (pre0.length : Int) := by omega
    have hx : x.items.length ≤ 8 := hs2 x (by rw [← hl]; simp)
    simp (config := {contextual := true, maxSteps := 2000000, implicitDefEqProofs := false}) [go_sem, hw, h3, h4, h5, ← hl]
    intro hLo
    refine VW_listKE [] [1, 3] hT h2 hm x.items [1, 4] (fun pre post (sn : List Int) => [.box 36 [.sl τ 2 (t.devices.map (enDev.av τ)), .sl τ 3 (t.buckets.map (enBkt.av τ))], .row 2 1 (sn.map (AV.int .i64))]) (fun pre post (sn : List Int) => [(5, .int .i64 pre.length), (3, .osl 1 1 0 sn.length)]) (fun pre post (sn : List Int) => onceL sn (post ++ rest.flatMap (·.items)) = r ∧ sn.length ≤ 8 * pre0.length + pre.length) sn ?_ ?_ ?_ ?_
    · exact ⟨by simpa using hR, by simpa using hR2⟩
    · simp [SubE, SubR, go_sem, ← hl]
    · rintro sn ⟨hR, hR2⟩
      have hx2 : x.items.length + 8 * pre0.length ≤ 8 * (pre0.length + 1) := by omega
      simp (config := {contextual := true, maxSteps := 2000000, implicitDefEqProofs := false}) [go_sem, hw, hLo, h3, h4, h5, ← hl, SubE, SubR]
      intro _
      exact ⟨sn, ⟨by simpa using hR, by omega⟩, rfl, rfl⟩
    · rintro pre y post sn hl' hlen' ⟨hR, hR2⟩
      have hw' : pre.length + (post.length + 1) ≤ maxLen → IntKind.i64.wrap ((pre.length : Int) + 1) = (pre.length : Int) + 1 := fun h => wrap_next h (by omega)
      have h3' : (0 : Int) ≤ pre.length := by omega
      have h4' : (pre.length : Int) < (pre.length : Int) + ((post.length : Int) + 1) := by omega
      have h5' : ¬ (pre.length : Int) + ((post.length : Int) + 1) ≤ (pre.length : Int) := by omega
      have hb : sn.length + 1 ≤ 200 := by omega
      simp only [List.cons_append, onceL] at hR
      simp (config := {contextual := true, maxSteps := 2000000, implicitDefEqProofs := false}) [go_sem, hw, h3, h4, h5, hw', h3', h4', h5', ← hl, ← hl', SubE, SubR]
      intro _
      refine ⟨fun h => by rw [h] at hR; simpa using hR.symm, fun h => ⟨by omega, sn ++ [y], ⟨by rw [h] at hR; simpa using hR, by simp; omega⟩, by simp, by simp⟩⟩
end Go.Ve
