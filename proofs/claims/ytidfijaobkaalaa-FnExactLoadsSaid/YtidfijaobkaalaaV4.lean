/- Contracts of the seat: trees. No condition. -/
import Derived.Test.YtidfijaobkaalaaV3
namespace Go.Ve
open Go.Proofs Go.RowKit
set_option linter.unusedVariables false
set_option linter.unusedSimpArgs false
set_option maxRecDepth 10000
set_option maxHeartbeats 4000000
def has (l : List Int) (x : Int) : Bool := l.any fun y => decide (y = x)
theorem has_iff {l : List Int} {x : Int} : has l x = true ↔ x ∈ l := by simp [has]
def devOk (o : Option Dev) (d : Dev) : Bool := btw d.id 0 15 && btw d.weight 0 8 && (match o with
  | some y => decide (y.id < d.id)
  | none => true)
def devsOk (t : Tree) : Bool := chk devOk none t.devices && decide (t.devices.length ≤ 16)
def kinds (t : Tree) (l : List Int) (a : List Int) : List Int := l.foldl (fun a id => ins a (kindOf t id)) a
def itemsOk (t : Tree) (b : Bkt) : Bool :=
  if b.items = [] then true else if 1 < (kinds t b.items []).length then false
  else if b.kind = 3 then decide (1 ∈ kinds t b.items []) || decide (2 ∈ kinds t b.items []) else decide (IntKind.i64.wrap (b.kind - 1) ∈ kinds t b.items [])
def bktOk (t : Tree) (o : Option Bkt) (b : Bkt) : Bool := btw b.id (-12) (-1) && (match o with
  | some y => decide (b.id < y.id)
  | none => true) && btw b.kind 1 3 && decide (b.items.length ≤ 8) && itemsOk t b
/-- Items are marked as used, none twice. -/
def useB : List Int → List Int → Option (List Int)
  | acc, [] => some acc
  | acc, id :: l => if id ∈ acc then none else useB (ins acc id) l
def treeL (t : Tree) : Option Bkt → List Int → List Bkt → Bool
  | _, _, [] => true
  | o, acc, b :: l => bktOk t o b && (useB acc b.items).elim false (fun acc' => treeL t (some b) acc' l)
def treeOkI (t : Tree) : Bool := devsOk t && decide (t.buckets.length ≤ 12) && treeL t none [] t.buckets
theorem last_concat {α : Type} {q : List α} {y : α} : (q ++ [y]).getLast? = some y := by simp

/- spec.l06Kind -/
def c130 : SCode := (.seq (.reg [⟨(some 2), .box 36 (.tmp 0), none⟩,
   ⟨(some 4), .assign (.const (.int .i64 0)), none⟩])
(.seq (.seq (.reg [⟨(some 6), .load 36 (.tmp 2), none⟩,
     ⟨(some 7), .move (.tmp 1), none⟩,
     ⟨(some 8), .call ⟨(.value (.func 134)), #[(.tmp 6), (.tmp 7)], #[36, 2]⟩, none⟩,
     ⟨(some 9), .binOp .geq 3 (.tmp 8) (.const (.int .i64 0)) 3, none⟩])
  (.cond (.tmp 9) (.seq (.reg [⟨(some 4), .assign (.const (.int .i64 0)), none⟩])
    .ret)
   .skip))
 (.seq (.seq (.reg [⟨(some 10), .load 36 (.tmp 2), none⟩,
      ⟨(some 11), .move (.tmp 1), none⟩,
      ⟨(some 12), .call ⟨(.value (.func 137)), #[(.tmp 10), (.tmp 11)], #[36, 2]⟩, none⟩,
      ⟨(some 5), .assign (.tmp 12), none⟩])
   (.seq (.reg [⟨(some 13), .move (.tmp 5), none⟩,
       ⟨(some 14), .binOp .geq 3 (.tmp 13) (.const (.int .i64 0)) 3, none⟩])
    (.cond (.tmp 14) (.seq (.reg [⟨(some 15), .fieldAddr 36 (.tmp 2) 1, none⟩,
         ⟨(some 16), .load 34 (.tmp 15), none⟩,
         ⟨(some 17), .move (.tmp 5), none⟩,
         ⟨(some 18), .indexAddr 34 (.tmp 16) (.tmp 17), none⟩,
         ⟨(some 19), .fieldAddr 115 (.tmp 18) 1, none⟩,
         ⟨(some 20), .load 2 (.tmp 19), none⟩,
         ⟨(some 4), .assign (.tmp 20), none⟩])
      .ret)
     .skip)))
  (.seq (.reg [⟨(some 4), .assign (.const (.int .i64 (-1))), none⟩])
   .ret))))
theorem s130 : slimF Try.f130 = some (c130, [.t 4], 21) := by kernel_rfl
theorem o130 : okF [(134, g134), (137, g137)] Try.f130 = true := by kernel_rfl
noncomputable def g130 : Fsem := sem2 enTree (En.int .i64) (fun t id => True) (fun n t id => .int .i64 (kindOf t id))
@[go_sem] theorem g130_eq {n τ : Nat} {t : Tree} {id : Int} : g130 n [.agg [.sl τ 2 (t.devices.map (enDev.av τ)), .sl τ 3 (t.buckets.map (enBkt.av τ))], .int .i64 id] = ⟨True, .int .i64 (kindOf t id)⟩ := sem2_eq (τ' := 0) (E := enTree) (F := (En.int .i64))
theorem p130 : Pure Try.prog 130 g130 := by
  refine sem2_pure fun τ τ' t id n h2 hpre => ?_
  have hT : Table Try.prog [(134, g134), (137, g137)] := (.cons p134 (.cons p137 .nil))
  have hn0 : n ≠ 0 := by omega
  refine SatP.of_body hT hm Try.func130 s130 o130 h2 (by simp) ?_
  rcases idx_spec (fun b : Bkt => decide (b.id = id)) t.buckets with ⟨h1, hb⟩ | ⟨a, x, b, hl, h2, h3, hb⟩
  · simp (config := {contextual := true, maxSteps := 2000000, implicitDefEqProofs := false}) [c130, go_sem, bktI, h1, kindOf, bktO, hb] <;> grind
  · have h4 : (0 : Int) ≤ a.length := by omega
    have h6 : (a.length : Int) < (a.length : Int) + ((b.length : Int) + 1) := by omega
    simp only [kindOf, bktO, hb]
    simp (config := {contextual := true, maxSteps := 2000000, implicitDefEqProofs := false}) [c130, go_sem, bktI, h3]
    simp (config := {contextual := true, maxSteps := 2000000, implicitDefEqProofs := false}) [go_sem, hl, h4, h6] <;> grind
/- spec.l00Has -/
def c129 : SCode := (.seq (.reg [⟨(some 4), .assign (.const (.bool false)), none⟩])
(.seq (.seq (.reg [⟨(some 5), .assign (.const (.int .i64 0)), none⟩])
  (.block 0 (.loop (.seq (.seq (.reg [⟨(some 6), .move (.tmp 5), none⟩,
         ⟨(some 7), .move (.tmp 0), none⟩,
         ⟨(some 8), .call ⟨(.builtin .len), #[(.tmp 7)], #[28]⟩, none⟩,
         ⟨(some 9), .binOp .lss 3 (.tmp 6) (.tmp 8) 3, none⟩])
      (.cond (.tmp 9) .skip
       (.exit 0)))
     (.seq (.block 1 (.seq (.reg [⟨(some 12), .move (.tmp 0), none⟩,
           ⟨(some 13), .move (.tmp 5), none⟩,
           ⟨(some 14), .indexAddr 28 (.tmp 12) (.tmp 13), none⟩,
           ⟨(some 15), .load 2 (.tmp 14), none⟩,
           ⟨(some 16), .move (.tmp 1), none⟩,
           ⟨(some 17), .binOp .eql 2 (.tmp 15) (.tmp 16) 2, none⟩])
        (.cond (.tmp 17) (.seq (.reg [⟨(some 4), .assign (.const (.bool true)), none⟩])
          .ret)
         .skip)))
      (.reg [⟨(some 10), .move (.tmp 5), none⟩,
         ⟨(some 11), .binOp .add 3 (.tmp 10) (.const (.int .i64 1)) 3, none⟩,
         ⟨(some 5), .assign (.tmp 11), none⟩]))))))
 (.seq (.reg [⟨(some 4), .assign (.const (.bool false)), none⟩])
  .ret)))
theorem s129 : slimF Try.f129 = some (c129, [.t 4], 18) := by kernel_rfl
theorem o129 : okF [] Try.f129 = true := by kernel_rfl
noncomputable def g129 : Fsem := sem2 (En.int .i64).list (En.int .i64) (fun l x => True) (fun n l x => .bool (has l x))
@[go_sem] theorem g129_eq {n τ : Nat} {l : List Int} {x : Int} : g129 n [.sl τ 1 (l.map (AV.int .i64)), .int .i64 x] = ⟨True, .bool (has l x)⟩ := sem2_eq (τ' := 0) (E := (En.int .i64).list) (F := (En.int .i64))
theorem p129 : Pure Try.prog 129 g129 := by
  refine sem2_pure fun τ τ' l x n h2 hpre => ?_
  have hT : Table Try.prog [] := .nil
  have hn0 : n ≠ 0 := by omega
  refine SatP.of_body hT hm Try.func129 s129 o129 h2 (by simp) ?_
  simp (config := {contextual := true, maxSteps := 2000000, implicitDefEqProofs := false}) [c129, go_sem]
  refine VW_listK hT h2 hm l [0, 1] (fun pre post (u0 : Unit) => [(5, .int .i64 pre.length)]) (fun pre post (u0 : Unit) => post.any (fun y => decide (y = x)) = has l x) () ?_ ?_ ?_ ?_
  · rfl
  · simp [SubI, go_sem]
  · rintro u0 hR
    simp (config := {contextual := true, maxSteps := 2000000, implicitDefEqProofs := false}) [go_sem]
    simp at hR; grind
  · rintro pre x0 post u0 hl hlen hR
    have hw : pre.length + (post.length + 1) ≤ maxLen → IntKind.i64.wrap ((pre.length : Int) + 1) = (pre.length : Int) + 1 := fun h => wrap_next h (by omega)
    have h3 : (0 : Int) ≤ pre.length := by omega
    have h4 : (pre.length : Int) < (pre.length : Int) + ((post.length : Int) + 1) := by omega
    have h5 : ¬ (pre.length : Int) + ((post.length : Int) + 1) ≤ (pre.length : Int) := by omega
    by_cases hp : x0 = x
    · simp [hp] at hR
      simp (config := {contextual := true, maxSteps := 2000000, implicitDefEqProofs := false}) [go_sem, hw, h3, h4, h5, ← hl, SubI, hp] <;> grind
    · simp [hp] at hR
      simp (config := {contextual := true, maxSteps := 2000000, implicitDefEqProofs := false}) [go_sem, hw, h3, h4, h5, ← hl, SubI, hp] <;> grind
/- (impl.Tree).devicesOk -/
def c81 : SCode := (.seq (.reg [⟨(some 1), .box 36 (.tmp 0), none⟩,
   ⟨(some 2), .assign (.const (.bool false)), none⟩])
(.seq (.seq (.reg [⟨(some 5), .fieldAddr 36 (.tmp 1) 0, none⟩,
     ⟨(some 6), .load 33 (.tmp 5), none⟩,
     ⟨(some 7), .call ⟨(.builtin .len), #[(.tmp 6)], #[33]⟩, none⟩,
     ⟨(some 8), .move (.const (.int .i64 0)), none⟩])
  (.block 0 (.loop (.seq (.reg [⟨(some 9), .binOp .lss 3 (.tmp 8) (.tmp 7) 3, none⟩])
     (.seq (.cond (.tmp 9) .skip
       (.exit 0))
      (.seq (.block 1 (.seq (.reg [⟨(some 10), .move (.tmp 8), none⟩,
            ⟨(some 11), .indexAddr 33 (.tmp 6) (.tmp 8), none⟩,
            ⟨(some 12), .load 125 (.tmp 11), none⟩,
            ⟨(some 4), .alloc 125, none⟩,
            ⟨(some 3), .assign (.tmp 10), none⟩,
            ⟨none, .store 125 (.tmp 4) (.tmp 12), none⟩])
         (.seq (.draw [⟨(some 13), .fieldAddr 125 (.tmp 4) 0, none⟩,
             ⟨(some 14), .load 2 (.tmp 13), none⟩,
             ⟨(some 15), .call ⟨(.value (.func 120)), #[(.tmp 14)], #[2]⟩, none⟩,
             ⟨(some 16), .unOp .not 4 (.tmp 15), none⟩,
             ⟨(some 17), .move (.tmp 16), none⟩,
             ⟨(some 18), .move (.tmp 3), (some (17, false))⟩,
             ⟨(some 19), .binOp .gtr 3 (.tmp 18) (.const (.int .i64 0)) 3, (some (17, false))⟩,
             ⟨(some 20), .move (.tmp 19), (some (17, false))⟩,
             ⟨(some 21), .fieldAddr 125 (.tmp 4) 0, (some (20, true))⟩,
             ⟨(some 22), .load 2 (.tmp 21), (some (20, true))⟩,
             ⟨(some 23), .fieldAddr 36 (.tmp 1) 0, (some (20, true))⟩,
             ⟨(some 24), .load 33 (.tmp 23), (some (20, true))⟩,
             ⟨(some 25), .move (.tmp 3), (some (20, true))⟩,
             ⟨(some 26), .binOp .sub 3 (.tmp 25) (.const (.int .i64 1)) 3, (some (20, true))⟩,
             ⟨(some 27), .indexAddr 33 (.tmp 24) (.tmp 26), (some (20, true))⟩,
             ⟨(some 28), .fieldAddr 125 (.tmp 27) 0, (some (20, true))⟩,
             ⟨(some 29), .load 2 (.tmp 28), (some (20, true))⟩,
             ⟨(some 30), .binOp .leq 2 (.tmp 22) (.tmp 29) 2, (some (20, true))⟩,
             ⟨(some 31), .pick (.tmp 20) (.tmp 30) (.const (.bool false)), (some (17, false))⟩,
             ⟨(some 32), .pick (.tmp 17) (.const (.bool true)) (.tmp 31), none⟩,
             ⟨(some 33), .move (.tmp 32), none⟩,
             ⟨(some 34), .fieldAddr 125 (.tmp 4) 1, (some (33, false))⟩,
             ⟨(some 35), .load 2 (.tmp 34), (some (33, false))⟩,
             ⟨(some 36), .call ⟨(.value (.func 40)), #[(.tmp 35), (.const (.int .i64 0)), (.const (.int .i64 8))], #[2, 2, 2]⟩, (some (33, false))⟩,
             ⟨(some 37), .unOp .not 4 (.tmp 36), (some (33, false))⟩,
             ⟨(some 38), .pick (.tmp 33) (.const (.bool true)) (.tmp 37), none⟩] [[], [0], [0, 1], [0, 1, 2], [0, 1, 2, 3], [0, 1, 2, 3, 4], [0, 1, 2, 3, 4, 5], [0, 1, 2, 3, 4, 5, 6], [0, 1, 2, 3, 4, 5, 6, 7], [0, 1, 2, 3, 4, 5, 6, 7, 8], [0, 1, 2, 3, 4, 5, 6, 7], [0, 1, 2, 3, 4, 5, 6, 7, 10], [0, 1, 2, 3, 4, 5, 6, 7], [0, 1, 2, 3, 4, 5, 6, 7, 12], [0, 1, 2, 3, 4, 5, 6, 7, 10, 11, 12, 13], [0, 1, 2, 3, 4, 5, 6, 7, 10, 11, 12, 13, 14], [0, 1, 2, 3, 4, 5, 6, 7, 10, 11, 12, 13, 14, 15], [0, 1, 2, 3, 4, 5, 6, 7, 8, 9, 10, 11, 12, 13, 14, 15, 16], [0, 1, 2, 3, 4, 5, 6, 7, 8, 9, 10, 11, 12, 13, 14, 15, 16, 17], [0, 1, 2, 3, 4, 5, 6, 7, 8, 9, 10, 11, 12, 13, 14, 15, 16, 17, 18], [0, 1, 2, 3, 4, 5, 6, 7, 8, 9, 10, 11, 12, 13, 14, 15, 16, 17, 18, 19], [0, 1, 2, 3, 4, 5, 6, 7, 8, 9, 10, 11, 12, 13, 14, 15, 16, 17, 18, 19, 20], [0, 1, 2, 3, 4, 5, 6, 7, 8, 9, 10, 11, 12, 13, 14, 15, 16, 17, 18, 19, 20, 21], [0, 1, 2, 3, 4, 5, 6, 7, 8, 9, 10, 11, 12, 13, 14, 15, 16, 17, 18, 19, 20, 21, 22], [0, 1, 2, 3, 4, 5, 6, 7, 8, 9, 10, 11, 12, 13, 14, 15, 16, 17, 18, 19, 20, 21, 22, 23], [0, 1, 2, 3, 4, 5, 6, 7, 8, 9, 10, 11, 12, 13, 14, 15, 16, 17, 18, 19, 20, 21, 22, 23, 24]])
          (.cond (.tmp 38) (.seq (.reg [⟨(some 2), .assign (.const (.bool false)), none⟩])
            .ret)
           .skip))))
       (.reg [⟨(some 39), .binOp .add 3 (.tmp 8) (.const (.int .i64 1)) 3, none⟩,
          ⟨(some 8), .move (.tmp 39), none⟩])))))))
 (.seq (.reg [⟨(some 40), .fieldAddr 36 (.tmp 1) 0, none⟩,
     ⟨(some 41), .load 33 (.tmp 40), none⟩,
     ⟨(some 42), .call ⟨(.builtin .len), #[(.tmp 41)], #[33]⟩, none⟩,
     ⟨(some 43), .binOp .leq 3 (.tmp 42) (.const (.int .i64 16)) 3, none⟩,
     ⟨(some 2), .assign (.tmp 43), none⟩])
  .ret)))
theorem s81 : slimF Try.f81 = some (c81, [.t 2], 44) := by kernel_rfl
theorem o81 : okF [(120, g120), (40, g40)] Try.f81 = true := by kernel_rfl
noncomputable def g81 : Fsem := sem1 enTree (fun t => True) (fun n t => .bool (devsOk t))
@[go_sem] theorem g81_eq {n τ : Nat} {t : Tree} : g81 n [.agg [.sl τ 2 (t.devices.map (enDev.av τ)), .sl τ 3 (t.buckets.map (enBkt.av τ))]] = ⟨True, .bool (devsOk t)⟩ := sem1_eq  (E := enTree)
theorem p81 : Pure Try.prog 81 g81 := by
  refine sem1_pure fun τ t n h2 hpre => ?_
  have hT : Table Try.prog [(120, g120), (40, g40)] := (.cons p120 (.cons p40 .nil))
  have hn0 : n ≠ 0 := by omega
  refine SatP.of_body hT hm Try.func81 s81 o81 h2 (by simp) ?_
  simp only [devsOk]
  generalize hr : chk devOk none t.devices = r
  simp (config := {contextual := true, maxSteps := 2000000, implicitDefEqProofs := false}) [c81, go_sem]
  intro hL
  refine VW_listKe [] [1] hT h2 hm t.devices [1, 6, 7] (fun pre post (u0 : Unit) => [(8, .int .i64 pre.length)]) (fun pre post (u0 : Unit) => chk devOk pre.getLast? post = r) () ?_ ?_ ?_ ?_
  · exact hr
  · simp [SubE, SubR, go_sem]
  · rintro u0 hR
    simp (config := {contextual := true, maxSteps := 2000000, implicitDefEqProofs := false}) [go_sem]
    simp [chk] at hR; grind
  · rintro pre x post u0 hl hlen hR
    have hw : pre.length + (post.length + 1) ≤ maxLen → IntKind.i64.wrap ((pre.length : Int) + 1) = (pre.length : Int) + 1 := fun h => wrap_next h (by omega)
    have h3 : (0 : Int) ≤ pre.length := by omega
    have h4 : (pre.length : Int) < (pre.length : Int) + ((post.length : Int) + 1) := by omega
    have h5 : ¬ (pre.length : Int) + ((post.length : Int) + 1) ≤ (pre.length : Int) := by omega
    have hL1 : pre.length + (post.length + 1) ≤ maxLen := by omega
    rcases List.eq_nil_or_concat pre with rfl | ⟨q, y, rfl⟩
    · have hw0 : IntKind.i64.wrap 1 = 1 := by decide
      simp only [chk, List.getLast?_nil, devOk, btw] at hR
      simp (config := {contextual := true, maxSteps := 2000000, implicitDefEqProofs := false}) [go_sem, hw0, ← hl, SubE, SubR, devOk, btw] <;> grind
    · have h6 : q.length + (post.length + 1 + 1) ≤ maxLen → IntKind.i64.wrap ((q.length : Int) + 1 + 1) = (q.length : Int) + 1 + 1 := fun h => wrap_ok (by omega) (by simp only [maxLen] at h; omega)
      have h7 : q.length + (post.length + 1 + 1) ≤ maxLen → IntKind.i64.wrap (q.length : Int) = (q.length : Int) := fun h => wrap_ok (by omega) (by simp only [maxLen] at h; omega)
      have h8 : (0 : Int) ≤ (q.length : Int) + 1 := by omega
      have h9 : (0 : Int) < (q.length : Int) + 1 := by omega
      have h10 : (0 : Int) ≤ (q.length : Int) := by omega
      have h11 : (q.length : Int) + 1 < (q.length : Int) + ((post.length : Int) + 1 + 1) := by omega
      have h12 : (q.length : Int) < (q.length : Int) + ((post.length : Int) + 1 + 1) := by omega
      have hL2 : q.length + (post.length + 1 + 1) ≤ maxLen := by simp at hL1; omega
      simp only [chk, last_concat, devOk, btw] at hR
      simp (config := {contextual := true, maxSteps := 2000000, implicitDefEqProofs := false}) [go_sem, hL2, h6, h7, h8, h9, h10, h11, h12, ← hl, SubE, SubR, devOk, btw] <;> grind
end Go.Ve
