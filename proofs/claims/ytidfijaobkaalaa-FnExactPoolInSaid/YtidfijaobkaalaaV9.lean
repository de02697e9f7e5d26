/- Contracts of the seat: maps. No condition. -/
import Derived.Test.YtidfijaobkaalaaV8
namespace Go.Ve
open Go.Proofs Go.RowKit
set_option linter.unusedVariables false
set_option linter.unusedSimpArgs false
set_option maxRecDepth 10000
set_option maxHeartbeats 4000000
theorem ruleO_idx {m : Mp} {id : Int} : (ruleO m id).isSome = decide (0 ≤ idx (fun r : Rule => decide (r.id = id)) m.rules) := by
  rcases idx_spec (fun b : Rule => decide (b.id = id)) m.rules with ⟨h1, hb⟩ | ⟨a, x, b, hl, h2, h3, hb⟩
  · simp [ruleO, hb, h1]
  · simp [ruleO, hb, h3]
def nodeP (t : Tree) (o : Option Int) (x : Int) : Bool := !decide (devI t x < 0) && incP o x
theorem nodes_chk {t : Tree} : ∀ (l : List Int) (o : Option Int), chk (nodeP t) o l = (chk incP o l && !l.any fun id => decide (devI t id < 0))
  | [], o => rfl
  | x :: l, o => by
    simp only [chk, nodeP, nodes_chk l (some x), List.any_cons, Bool.not_or]
    ac_rfl

/- spec.l11Rule -/
def c77 : SCode := (.seq (.reg [⟨(some 2), .box 40 (.tmp 0), none⟩,
   ⟨(some 4), .assign (.const (.int .i64 0)), none⟩])
(.seq (.seq (.reg [⟨(some 5), .assign (.const (.int .i64 0)), none⟩])
  (.block 0 (.loop (.seq (.seq (.reg [⟨(some 6), .move (.tmp 5), none⟩,
         ⟨(some 7), .fieldAddr 40 (.tmp 2) 3, none⟩,
         ⟨(some 8), .load 37 (.tmp 7), none⟩,
         ⟨(some 9), .call ⟨(.builtin .len), #[(.tmp 8)], #[37]⟩, none⟩,
         ⟨(some 10), .binOp .lss 3 (.tmp 6) (.tmp 9) 3, none⟩])
      (.cond (.tmp 10) .skip
       (.exit 0)))
     (.seq (.block 1 (.seq (.reg [⟨(some 13), .fieldAddr 40 (.tmp 2) 3, none⟩,
           ⟨(some 14), .load 37 (.tmp 13), none⟩,
           ⟨(some 15), .move (.tmp 5), none⟩,
           ⟨(some 16), .indexAddr 37 (.tmp 14) (.tmp 15), none⟩,
           ⟨(some 17), .fieldAddr 87 (.tmp 16) 0, none⟩,
           ⟨(some 18), .load 2 (.tmp 17), none⟩,
           ⟨(some 19), .move (.tmp 1), none⟩,
           ⟨(some 20), .binOp .eql 2 (.tmp 18) (.tmp 19) 2, none⟩])
        (.cond (.tmp 20) (.seq (.reg [⟨(some 21), .move (.tmp 5), none⟩,
             ⟨(some 4), .assign (.tmp 21), none⟩])
          .ret)
         .skip)))
      (.reg [⟨(some 11), .move (.tmp 5), none⟩,
         ⟨(some 12), .binOp .add 3 (.tmp 11) (.const (.int .i64 1)) 3, none⟩,
         ⟨(some 5), .assign (.tmp 12), none⟩]))))))
 (.seq (.reg [⟨(some 4), .assign (.const (.int .i64 (-1))), none⟩])
  .ret)))
theorem s77 : slimF Try.f77 = some (c77, [.t 4], 22) := by kernel_rfl
theorem o77 : okF [] Try.f77 = true := by kernel_rfl
noncomputable def g77 : Fsem := sem2 enMp (En.int .i64) (fun m id => True) (fun n m id => .int .i64 (idx (fun d : Rule => decide (d.id = id)) m.rules))
@[go_sem] theorem g77_eq {n τ : Nat} {m : Mp} {id : Int} : g77 n [.agg [.int .i64 m.epoch, .int .i64 m.term, .sl τ 2 (m.tree.devices.map (enDev.av τ)), .sl τ 3 (m.tree.buckets.map (enBkt.av τ)), .sl τ 4 (m.rules.map (enRule.av τ)), .sl τ 6 (m.pools.map (enPool.av τ)), .sl τ 1 (m.up.map (AV.int .i64)), .sl τ 1 (m.out.map (AV.int .i64))], .int .i64 id] = ⟨True, .int .i64 (idx (fun d : Rule => decide (d.id = id)) m.rules)⟩ := sem2_eq (τ' := 0) (E := enMp) (F := (En.int .i64))
theorem p77 : Pure Try.prog 77 g77 := by
  refine sem2_pure fun τ τ' m id n h2 hpre => ?_
  have hT : Table Try.prog [] := .nil
  have hn0 : n ≠ 0 := by omega
  refine SatP.of_body hT hm Try.func77 s77 o77 h2 (by simp) ?_
  generalize hr : idx (fun d : Rule => decide (d.id = id)) m.rules = r
  simp (config := {contextual := true, maxSteps := 2000000, implicitDefEqProofs := false}) [c77, go_sem]
  refine VW_listK hT h2 hm m.rules [1, 2] (fun pre post (u0 : Unit) => [(5, .int .i64 pre.length)]) (fun pre post (u0 : Unit) => idxF (fun d : Rule => decide (d.id = id)) post pre.length = r) () ?_ ?_ ?_ ?_
  · exact hr
  · simp [SubI, go_sem]
  · rintro u0 hR
    simp (config := {contextual := true, maxSteps := 2000000, implicitDefEqProofs := false}) [go_sem]
    simp [idxF] at hR; grind
  · rintro pre x post u0 hl hlen hR
    have hw : pre.length + (post.length + 1) ≤ maxLen → IntKind.i64.wrap ((pre.length : Int) + 1) = (pre.length : Int) + 1 := fun h => wrap_next h (by omega)
    have h3 : (0 : Int) ≤ pre.length := by omega
    have h4 : (pre.length : Int) < (pre.length : Int) + ((post.length : Int) + 1) := by omega
    have h5 : ¬ (pre.length : Int) + ((post.length : Int) + 1) ≤ (pre.length : Int) := by omega
    simp only [idxF] at hR
    by_cases hp : x.id = id
    · simp [hp] at hR
      simp (config := {contextual := true, maxSteps := 2000000, implicitDefEqProofs := false}) [go_sem, hw, h3, h4, h5, ← hl, SubI, hp] <;> grind
    · simp [hp] at hR
      simp (config := {contextual := true, maxSteps := 2000000, implicitDefEqProofs := false}) [go_sem, hw, h3, h4, h5, ← hl, SubI, hp] <;> grind
/- spec.l11Pool -/
def c48 : SCode := (.seq (.reg [⟨(some 2), .box 40 (.tmp 0), none⟩,
   ⟨(some 4), .assign (.const (.int .i64 0)), none⟩])
(.seq (.seq (.reg [⟨(some 5), .assign (.const (.int .i64 0)), none⟩])
  (.block 0 (.loop (.seq (.seq (.reg [⟨(some 6), .move (.tmp 5), none⟩,
         ⟨(some 7), .fieldAddr 40 (.tmp 2) 4, none⟩,
         ⟨(some 8), .load 38 (.tmp 7), none⟩,
         ⟨(some 9), .call ⟨(.builtin .len), #[(.tmp 8)], #[38]⟩, none⟩,
         ⟨(some 10), .binOp .lss 3 (.tmp 6) (.tmp 9) 3, none⟩])
      (.cond (.tmp 10) .skip
       (.exit 0)))
     (.seq (.block 1 (.seq (.reg [⟨(some 13), .fieldAddr 40 (.tmp 2) 4, none⟩,
           ⟨(some 14), .load 38 (.tmp 13), none⟩,
           ⟨(some 15), .move (.tmp 5), none⟩,
           ⟨(some 16), .indexAddr 38 (.tmp 14) (.tmp 15), none⟩,
           ⟨(some 17), .fieldAddr 47 (.tmp 16) 0, none⟩,
           ⟨(some 18), .load 2 (.tmp 17), none⟩,
           ⟨(some 19), .move (.tmp 1), none⟩,
           ⟨(some 20), .binOp .eql 2 (.tmp 18) (.tmp 19) 2, none⟩])
        (.cond (.tmp 20) (.seq (.reg [⟨(some 21), .move (.tmp 5), none⟩,
             ⟨(some 4), .assign (.tmp 21), none⟩])
          .ret)
         .skip)))
      (.reg [⟨(some 11), .move (.tmp 5), none⟩,
         ⟨(some 12), .binOp .add 3 (.tmp 11) (.const (.int .i64 1)) 3, none⟩,
         ⟨(some 5), .assign (.tmp 12), none⟩]))))))
 (.seq (.reg [⟨(some 4), .assign (.const (.int .i64 (-1))), none⟩])
  .ret)))
theorem s48 : slimF Try.f48 = some (c48, [.t 4], 22) := by kernel_rfl
theorem o48 : okF [] Try.f48 = true := by kernel_rfl
noncomputable def g48 : Fsem := sem2 enMp (En.int .i64) (fun m id => True) (fun n m id => .int .i64 (idx (fun d : Pool => decide (d.id = id)) m.pools))
@[go_sem] theorem g48_eq {n τ : Nat} {m : Mp} {id : Int} : g48 n [.agg [.int .i64 m.epoch, .int .i64 m.term, .sl τ 2 (m.tree.devices.map (enDev.av τ)), .sl τ 3 (m.tree.buckets.map (enBkt.av τ)), .sl τ 4 (m.rules.map (enRule.av τ)), .sl τ 6 (m.pools.map (enPool.av τ)), .sl τ 1 (m.up.map (AV.int .i64)), .sl τ 1 (m.out.map (AV.int .i64))], .int .i64 id] = ⟨True, .int .i64 (idx (fun d : Pool => decide (d.id = id)) m.pools)⟩ := sem2_eq (τ' := 0) (E := enMp) (F := (En.int .i64))
theorem p48 : Pure Try.prog 48 g48 := by
  refine sem2_pure fun τ τ' m id n h2 hpre => ?_
  have hT : Table Try.prog [] := .nil
  have hn0 : n ≠ 0 := by omega
  refine SatP.of_body hT hm Try.func48 s48 o48 h2 (by simp) ?_
  generalize hr : idx (fun d : Pool => decide (d.id = id)) m.pools = r
  simp (config := {contextual := true, maxSteps := 2000000, implicitDefEqProofs := false}) [c48, go_sem]
  refine VW_listK hT h2 hm m.pools [1, 2] (fun pre post (u0 : Unit) => [(5, .int .i64 pre.length)]) (fun pre post (u0 : Unit) => idxF (fun d : Pool => decide (d.id = id)) post pre.length = r) () ?_ ?_ ?_ ?_
  · exact hr
  · simp [SubI, go_sem]
  · rintro u0 hR
    simp (config := {contextual := true, maxSteps := 2000000, implicitDefEqProofs := false}) [go_sem]
    simp [idxF] at hR; grind
  · rintro pre x post u0 hl hlen hR
    have hw : pre.length + (post.length + 1) ≤ maxLen → IntKind.i64.wrap ((pre.length : Int) + 1) = (pre.length : Int) + 1 := fun h => wrap_next h (by omega)
    have h3 : (0 : Int) ≤ pre.length := by omega
    have h4 : (pre.length : Int) < (pre.length : Int) + ((post.length : Int) + 1) := by omega
    have h5 : ¬ (pre.length : Int) + ((post.length : Int) + 1) ≤ (pre.length : Int) := by omega
    simp only [idxF] at hR
    by_cases hp : x.id = id
    · simp [hp] at hR
      simp (config := {contextual := true, maxSteps := 2000000, implicitDefEqProofs := false}) [go_sem, hw, h3, h4, h5, ← hl, SubI, hp] <;> grind
    · simp [hp] at hR
      simp (config := {contextual := true, maxSteps := 2000000, implicitDefEqProofs := false}) [go_sem, hw, h3, h4, h5, ← hl, SubI, hp] <;> grind
/- (impl.Map).rulesOk -/
def c42 : SCode := (.seq (.reg [⟨(some 1), .box 40 (.tmp 0), none⟩,
   ⟨(some 2), .assign (.const (.bool false)), none⟩])
(.seq (.seq (.reg [⟨(some 5), .fieldAddr 40 (.tmp 1) 3, none⟩,
     ⟨(some 6), .load 37 (.tmp 5), none⟩,
     ⟨(some 7), .call ⟨(.builtin .len), #[(.tmp 6)], #[37]⟩, none⟩,
     ⟨(some 8), .move (.const (.int .i64 0)), none⟩])
  (.block 0 (.loop (.seq (.reg [⟨(some 9), .binOp .lss 3 (.tmp 8) (.tmp 7) 3, none⟩])
     (.seq (.cond (.tmp 9) .skip
       (.exit 0))
      (.seq (.block 1 (.seq (.reg [⟨(some 10), .move (.tmp 8), none⟩,
            ⟨(some 11), .indexAddr 37 (.tmp 6) (.tmp 8), none⟩,
            ⟨(some 12), .load 87 (.tmp 11), none⟩,
            ⟨(some 4), .alloc 87, none⟩,
            ⟨(some 3), .assign (.tmp 10), none⟩,
            ⟨none, .store 87 (.tmp 4) (.tmp 12), none⟩])
         (.seq (.draw [⟨(some 13), .fieldAddr 40 (.tmp 1) 2, none⟩,
             ⟨(some 14), .load 36 (.tmp 13), none⟩,
             ⟨(some 15), .load 87 (.tmp 4), none⟩,
             ⟨(some 16), .call ⟨(.value (.func 83)), #[(.tmp 14), (.tmp 15)], #[36, 87]⟩, none⟩,
             ⟨(some 17), .unOp .not 4 (.tmp 16), none⟩,
             ⟨(some 18), .move (.tmp 17), none⟩,
             ⟨(some 19), .move (.tmp 3), (some (18, false))⟩,
             ⟨(some 20), .binOp .gtr 3 (.tmp 19) (.const (.int .i64 0)) 3, (some (18, false))⟩,
             ⟨(some 21), .move (.tmp 20), (some (18, false))⟩,
             ⟨(some 22), .fieldAddr 87 (.tmp 4) 0, (some (21, true))⟩,
             ⟨(some 23), .load 2 (.tmp 22), (some (21, true))⟩,
             ⟨(some 24), .fieldAddr 40 (.tmp 1) 3, (some (21, true))⟩,
             ⟨(some 25), .load 37 (.tmp 24), (some (21, true))⟩,
             ⟨(some 26), .move (.tmp 3), (some (21, true))⟩,
             ⟨(some 27), .binOp .sub 3 (.tmp 26) (.const (.int .i64 1)) 3, (some (21, true))⟩,
             ⟨(some 28), .indexAddr 37 (.tmp 25) (.tmp 27), (some (21, true))⟩,
             ⟨(some 29), .fieldAddr 87 (.tmp 28) 0, (some (21, true))⟩,
             ⟨(some 30), .load 2 (.tmp 29), (some (21, true))⟩,
             ⟨(some 31), .binOp .leq 2 (.tmp 23) (.tmp 30) 2, (some (21, true))⟩,
             ⟨(some 32), .pick (.tmp 21) (.tmp 31) (.const (.bool false)), (some (18, false))⟩,
             ⟨(some 33), .pick (.tmp 18) (.const (.bool true)) (.tmp 32), none⟩] [[], [0], [], [0, 1, 2], [0, 1, 2, 3], [0, 1, 2, 3, 4], [0, 1, 2, 3, 4, 5], [0, 1, 2, 3, 4, 5, 6], [0, 1, 2, 3, 4, 5, 6, 7], [0, 1, 2, 3, 4, 5, 6, 7, 8], [0, 1, 2, 3, 4, 5, 6, 7, 8, 9], [0, 1, 2, 3, 4, 5, 6, 7, 8], [0, 1, 2, 3, 4, 5, 6, 7, 8, 11], [0, 1, 2, 3, 4, 5, 6, 7, 8], [0, 1, 2, 3, 4, 5, 6, 7, 8, 13], [0, 1, 2, 3, 4, 5, 6, 7, 8, 11, 12, 13, 14], [0, 1, 2, 3, 4, 5, 6, 7, 8, 11, 12, 13, 14, 15], [0, 1, 2, 3, 4, 5, 6, 7, 8, 11, 12, 13, 14, 15, 16], [0, 1, 2, 3, 4, 5, 6, 7, 8, 9, 10, 11, 12, 13, 14, 15, 16, 17], [0, 1, 2, 3, 4, 5, 6, 7, 8, 9, 10, 11, 12, 13, 14, 15, 16, 17, 18], [0, 1, 2, 3, 4, 5, 6, 7, 8, 9, 10, 11, 12, 13, 14, 15, 16, 17, 18, 19]])
          (.cond (.tmp 33) (.seq (.reg [⟨(some 2), .assign (.const (.bool false)), none⟩])
            .ret)
           .skip))))
       (.reg [⟨(some 34), .binOp .add 3 (.tmp 8) (.const (.int .i64 1)) 3, none⟩,
          ⟨(some 8), .move (.tmp 34), none⟩])))))))
 (.seq (.reg [⟨(some 35), .fieldAddr 40 (.tmp 1) 3, none⟩,
     ⟨(some 36), .load 37 (.tmp 35), none⟩,
     ⟨(some 37), .call ⟨(.builtin .len), #[(.tmp 36)], #[37]⟩, none⟩,
     ⟨(some 38), .binOp .leq 3 (.tmp 37) (.const (.int .i64 4)) 3, none⟩,
     ⟨(some 2), .assign (.tmp 38), none⟩])
  .ret)))
theorem s42 : slimF Try.f42 = some (c42, [.t 2], 39) := by kernel_rfl
theorem o42 : okF [(83, g83)] Try.f42 = true := by kernel_rfl
noncomputable def g42 : Fsem := semT1 enMp (fun τ m => τ ≠ 0) (fun n τ m => .bool (rulesOk m))
@[go_sem] theorem g42_eq {n τ : Nat} {m : Mp} : g42 n [.agg [.int .i64 m.epoch, .int .i64 m.term, .sl τ 2 (m.tree.devices.map (enDev.av τ)), .sl τ 3 (m.tree.buckets.map (enBkt.av τ)), .sl τ 4 (m.rules.map (enRule.av τ)), .sl τ 6 (m.pools.map (enPool.av τ)), .sl τ 1 (m.up.map (AV.int .i64)), .sl τ 1 (m.out.map (AV.int .i64))]] = ⟨τ ≠ 0, .bool (rulesOk m)⟩ := semT1_eq  (E := enMp) (seen_Mp)
theorem p42 : Pure Try.prog 42 g42 := by
  refine semT1_pure fun τ m n h2 hpre => ?_
  have hT : Table Try.prog [(83, g83)] := (.cons p83 .nil)
  have hn0 : n ≠ 0 := by omega
  refine SatP.of_body hT hm Try.func42 s42 o42 h2 (by simp) ?_
  have hp : τ ≠ 0 := hpre
  simp only [rulesOk]
  generalize hr : chk (ruleP m.tree) none m.rules = r
  simp (config := {contextual := true, maxSteps := 2000000, implicitDefEqProofs := false}) [c42, go_sem]
  intro hL
  refine VW_listKe [] [1] hT h2 hm m.rules [1, 6, 7] (fun pre post (b : Unit) => [(8, .int .i64 pre.length)]) (fun pre post (b : Unit) => chk (ruleP m.tree) pre.getLast? post = r) () ?_ ?_ ?_ ?_
  · exact hr
  · simp [SubE, SubR, go_sem]
  · intro _ hR
    have hR0 : true = r := hR
    simp (config := {contextual := true, maxSteps := 2000000, implicitDefEqProofs := false}) [go_sem]
    grind
  · rintro pre0 x rest _ hl hlen hR
    rcases List.eq_nil_or_concat pre0 with rfl | ⟨q, y, rfl⟩
    · have hln : m.rules.length = 0 + (rest.length + 1) := by rw [← hl]; simp
      have hn : nth (List.map (enRule.av τ) m.rules) (0) = (enRule.av τ) x := by rw [← hl]; simp [go_sem]
      have hw : m.rules.length ≤ maxLen → IntKind.i64.wrap ((0 : Int) + 1) = (0 : Int) + 1 := fun h => wrap_ok (by omega) (by simp only [maxLen] at h; omega)
      have h3 : (0 : Int) ≤ (0 : Int) := by omega
      have h4 : (0 : Int) < (m.rules.length : Int) := by omega
      have h5 : ¬ (m.rules.length : Int) ≤ (0 : Int) := by omega
      have hw0 : IntKind.i64.wrap 1 = 1 := by decide
      have h4n : 0 < m.rules.length := by omega
      simp only [chk, ruleP, List.getLast?_nil] at hR
      (simp (config := {contextual := true, maxSteps := 2000000, implicitDefEqProofs := false}) [go_sem, hp, hL, SubE, SubR, hw0, h4n, hn, hw, h3, h4, h5] <;> grind)
    · have hln : m.rules.length = q.length + 1 + (rest.length + 1) := by rw [← hl]; simp; omega
      have hn : nth (List.map (enRule.av τ) m.rules) (q.length + 1) = (enRule.av τ) x := by rw [← hl]; simp [go_sem]
      have hw : m.rules.length ≤ maxLen → IntKind.i64.wrap (((q.length : Int) + 1) + 1) = ((q.length : Int) + 1) + 1 := fun h => wrap_ok (by omega) (by simp only [maxLen] at h; omega)
      have h3 : (0 : Int) ≤ ((q.length : Int) + 1) := by omega
      have h4 : ((q.length : Int) + 1) < (m.rules.length : Int) := by omega
      have h5 : ¬ (m.rules.length : Int) ≤ ((q.length : Int) + 1) := by omega
      have h6 : nth (List.map (enRule.av τ) m.rules) q.length = (enRule.av τ) y := by rw [← hl]; simp [go_sem]
      have h7 : m.rules.length ≤ maxLen → IntKind.i64.wrap (q.length : Int) = (q.length : Int) := fun h => wrap_ok (by omega) (by simp only [maxLen] at h; omega)
      have h8 : (0 : Int) ≤ (q.length : Int) := by omega
      have h9 : (0 : Int) < ((q.length : Int) + 1) := by omega
      have h10 : (q.length : Int) < (m.rules.length : Int) := by omega
      simp only [chk, ruleP, last_concat] at hR
      (simp (config := {contextual := true, maxSteps := 2000000, implicitDefEqProofs := false}) [go_sem, hp, hL, SubE, SubR, hn, hw, h3, h4, h5, h6, h7, h8, h9, h10] <;> grind)
/- (impl.Map).poolsOk -/
def c43 : SCode := (.seq (.reg [⟨(some 1), .box 40 (.tmp 0), none⟩,
   ⟨(some 2), .assign (.const (.bool false)), none⟩])
(.seq (.seq (.reg [⟨(some 5), .fieldAddr 40 (.tmp 1) 4, none⟩,
     ⟨(some 6), .load 38 (.tmp 5), none⟩,
     ⟨(some 7), .call ⟨(.builtin .len), #[(.tmp 6)], #[38]⟩, none⟩,
     ⟨(some 8), .move (.const (.int .i64 0)), none⟩])
  (.block 0 (.loop (.seq (.reg [⟨(some 9), .binOp .lss 3 (.tmp 8) (.tmp 7) 3, none⟩])
     (.seq (.cond (.tmp 9) .skip
       (.exit 0))
      (.seq (.block 1 (.seq (.reg [⟨(some 10), .move (.tmp 8), none⟩,
            ⟨(some 11), .indexAddr 38 (.tmp 6) (.tmp 8), none⟩,
            ⟨(some 12), .load 47 (.tmp 11), none⟩,
            ⟨(some 4), .alloc 47, none⟩,
            ⟨(some 3), .assign (.tmp 10), none⟩,
            ⟨none, .store 47 (.tmp 4) (.tmp 12), none⟩])
         (.seq (.draw [⟨(some 13), .load 47 (.tmp 4), none⟩,
             ⟨(some 14), .call ⟨(.value (.func 84)), #[(.tmp 13)], #[47]⟩, none⟩,
             ⟨(some 15), .unOp .not 4 (.tmp 14), none⟩,
             ⟨(some 16), .move (.tmp 15), none⟩,
             ⟨(some 17), .move (.tmp 3), (some (16, false))⟩,
             ⟨(some 18), .binOp .gtr 3 (.tmp 17) (.const (.int .i64 0)) 3, (some (16, false))⟩,
             ⟨(some 19), .move (.tmp 18), (some (16, false))⟩,
             ⟨(some 20), .fieldAddr 47 (.tmp 4) 0, (some (19, true))⟩,
             ⟨(some 21), .load 2 (.tmp 20), (some (19, true))⟩,
             ⟨(some 22), .fieldAddr 40 (.tmp 1) 4, (some (19, true))⟩,
             ⟨(some 23), .load 38 (.tmp 22), (some (19, true))⟩,
             ⟨(some 24), .move (.tmp 3), (some (19, true))⟩,
             ⟨(some 25), .binOp .sub 3 (.tmp 24) (.const (.int .i64 1)) 3, (some (19, true))⟩,
             ⟨(some 26), .indexAddr 38 (.tmp 23) (.tmp 25), (some (19, true))⟩,
             ⟨(some 27), .fieldAddr 47 (.tmp 26) 0, (some (19, true))⟩,
             ⟨(some 28), .load 2 (.tmp 27), (some (19, true))⟩,
             ⟨(some 29), .binOp .leq 2 (.tmp 21) (.tmp 28) 2, (some (19, true))⟩,
             ⟨(some 30), .pick (.tmp 19) (.tmp 29) (.const (.bool false)), (some (16, false))⟩,
             ⟨(some 31), .pick (.tmp 16) (.const (.bool true)) (.tmp 30), none⟩,
             ⟨(some 32), .move (.tmp 31), none⟩,
             ⟨(some 33), .load 40 (.tmp 1), (some (32, false))⟩,
             ⟨(some 34), .fieldAddr 47 (.tmp 4) 4, (some (32, false))⟩,
             ⟨(some 35), .load 2 (.tmp 34), (some (32, false))⟩,
             ⟨(some 36), .call ⟨(.value (.func 85)), #[(.tmp 33), (.tmp 35)], #[40, 2]⟩, (some (32, false))⟩,
             ⟨(some 37), .binOp .eql 117 (.tmp 36) (.const (.pointer none)) 117, (some (32, false))⟩,
             ⟨(some 38), .pick (.tmp 32) (.const (.bool true)) (.tmp 37), none⟩] [[], [0], [0, 1], [0, 1, 2], [0, 1, 2, 3], [0, 1, 2, 3, 4], [0, 1, 2, 3, 4, 5], [0, 1, 2, 3, 4, 5, 6], [0, 1, 2, 3, 4, 5, 6, 7], [0, 1, 2, 3, 4, 5, 6], [0, 1, 2, 3, 4, 5, 6, 9], [0, 1, 2, 3, 4, 5, 6], [0, 1, 2, 3, 4, 5, 6, 11], [0, 1, 2, 3, 4, 5, 6, 9, 10, 11, 12], [0, 1, 2, 3, 4, 5, 6, 9, 10, 11, 12, 13], [0, 1, 2, 3, 4, 5, 6, 9, 10, 11, 12, 13, 14], [0, 1, 2, 3, 4, 5, 6, 7, 8, 9, 10, 11, 12, 13, 14, 15], [0, 1, 2, 3, 4, 5, 6, 7, 8, 9, 10, 11, 12, 13, 14, 15, 16], [0, 1, 2, 3, 4, 5, 6, 7, 8, 9, 10, 11, 12, 13, 14, 15, 16, 17], [0, 1, 2, 3, 4, 5, 6, 7, 8, 9, 10, 11, 12, 13, 14, 15, 16, 17, 18], [0, 1, 2, 3, 4, 5, 6, 7, 8, 9, 10, 11, 12, 13, 14, 15, 16, 17, 18, 19], [0, 1, 2, 3, 4, 5, 6, 7, 8, 9, 10, 11, 12, 13, 14, 15, 16, 17, 18, 19], [0, 1, 2, 3, 4, 5, 6, 7, 8, 9, 10, 11, 12, 13, 14, 15, 16, 17, 18, 19, 21], [0, 1, 2, 3, 4, 5, 6, 7, 8, 9, 10, 11, 12, 13, 14, 15, 16, 17, 18, 19, 20, 21, 22], [0, 1, 2, 3, 4, 5, 6, 7, 8, 9, 10, 11, 12, 13, 14, 15, 16, 17, 18, 19, 20, 21, 22, 23], [0, 1, 2, 3, 4, 5, 6, 7, 8, 9, 10, 11, 12, 13, 14, 15, 16, 17, 18, 19, 20, 21, 22, 23, 24]])
          (.cond (.tmp 38) (.seq (.reg [⟨(some 2), .assign (.const (.bool false)), none⟩])
            .ret)
           .skip))))
       (.reg [⟨(some 39), .binOp .add 3 (.tmp 8) (.const (.int .i64 1)) 3, none⟩,
          ⟨(some 8), .move (.tmp 39), none⟩])))))))
 (.seq (.reg [⟨(some 40), .fieldAddr 40 (.tmp 1) 4, none⟩,
     ⟨(some 41), .load 38 (.tmp 40), none⟩,
     ⟨(some 42), .call ⟨(.builtin .len), #[(.tmp 41)], #[38]⟩, none⟩,
     ⟨(some 43), .binOp .leq 3 (.tmp 42) (.const (.int .i64 4)) 3, none⟩,
     ⟨(some 2), .assign (.tmp 43), none⟩])
  .ret)))
theorem s43 : slimF Try.f43 = some (c43, [.t 2], 44) := by kernel_rfl
theorem o43 : okF [(84, g84), (85, g85)] Try.f43 = true := by kernel_rfl
noncomputable def g43 : Fsem := semT1 enMp (fun τ m => τ ≠ 0) (fun n τ m => .bool (poolsOk m))
@[go_sem] theorem g43_eq {n τ : Nat} {m : Mp} : g43 n [.agg [.int .i64 m.epoch, .int .i64 m.term, .sl τ 2 (m.tree.devices.map (enDev.av τ)), .sl τ 3 (m.tree.buckets.map (enBkt.av τ)), .sl τ 4 (m.rules.map (enRule.av τ)), .sl τ 6 (m.pools.map (enPool.av τ)), .sl τ 1 (m.up.map (AV.int .i64)), .sl τ 1 (m.out.map (AV.int .i64))]] = ⟨τ ≠ 0, .bool (poolsOk m)⟩ := semT1_eq  (E := enMp) (seen_Mp)
theorem p43 : Pure Try.prog 43 g43 := by
  refine semT1_pure fun τ m n h2 hpre => ?_
  have hT : Table Try.prog [(84, g84), (85, g85)] := (.cons p84 (.cons p85 .nil))
  have hn0 : n ≠ 0 := by omega
  refine SatP.of_body hT hm Try.func43 s43 o43 h2 (by simp) ?_
  have hp : τ ≠ 0 := hpre
  simp only [poolsOk]
  generalize hr : chk (poolP m) none m.pools = r
  simp (config := {contextual := true, maxSteps := 2000000, implicitDefEqProofs := false}) [c43, go_sem]
  intro hL
  refine VW_listKe [] [1] hT h2 hm m.pools [1, 6, 7] (fun pre post (b : Unit) => [(8, .int .i64 pre.length)]) (fun pre post (b : Unit) => chk (poolP m) pre.getLast? post = r) () ?_ ?_ ?_ ?_
  · exact hr
  · simp [SubE, SubR, go_sem]
  · intro _ hR
    have hR0 : true = r := hR
    simp (config := {contextual := true, maxSteps := 2000000, implicitDefEqProofs := false}) [go_sem]
    grind
  · rintro pre0 x rest _ hl hlen hR
    rcases List.eq_nil_or_concat pre0 with rfl | ⟨q, y, rfl⟩
    · have hln : m.pools.length = 0 + (rest.length + 1) := by rw [← hl]; simp
      have hn : nth (List.map (enPool.av τ) m.pools) (0) = (enPool.av τ) x := by rw [← hl]; simp [go_sem]
      have hw : m.pools.length ≤ maxLen → IntKind.i64.wrap ((0 : Int) + 1) = (0 : Int) + 1 := fun h => wrap_ok (by omega) (by simp only [maxLen] at h; omega)
      have h3 : (0 : Int) ≤ (0 : Int) := by omega
      have h4 : (0 : Int) < (m.pools.length : Int) := by omega
      have h5 : ¬ (m.pools.length : Int) ≤ (0 : Int) := by omega
      have hw0 : IntKind.i64.wrap 1 = 1 := by decide
      have h4n : 0 < m.pools.length := by omega
      simp only [chk, poolP, List.getLast?_nil] at hR
      cases hrl : ruleO m x.rule <;> simp only [hrl, Option.isSome_none, Option.isSome_some] at hR <;> (simp (config := {contextual := true, maxSteps := 2000000, implicitDefEqProofs := false}) [go_sem, hp, hL, hrl, SubE, SubR, hw0, h4n, hn, hw, h3, h4, h5] <;> grind)
    · have hln : m.pools.length = q.length + 1 + (rest.length + 1) := by rw [← hl]; simp; omega
      have hn : nth (List.map (enPool.av τ) m.pools) (q.length + 1) = (enPool.av τ) x := by rw [← hl]; simp [go_sem]
      have hw : m.pools.length ≤ maxLen → IntKind.i64.wrap (((q.length : Int) + 1) + 1) = ((q.length : Int) + 1) + 1 := fun h => wrap_ok (by omega) (by simp only [maxLen] at h; omega)
      have h3 : (0 : Int) ≤ ((q.length : Int) + 1) := by omega
      have h4 : ((q.length : Int) + 1) < (m.pools.length : Int) := by omega
      have h5 : ¬ (m.pools.length : Int) ≤ ((q.length : Int) + 1) := by omega
      have h6 : nth (List.map (enPool.av τ) m.pools) q.length = (enPool.av τ) y := by rw [← hl]; simp [go_sem]
      have h7 : m.pools.length ≤ maxLen → IntKind.i64.wrap (q.length : Int) = (q.length : Int) := fun h => wrap_ok (by omega) (by simp only [maxLen] at h; omega)
      have h8 : (0 : Int) ≤ (q.length : Int) := by omega
      have h9 : (0 : Int) < ((q.length : Int) + 1) := by omega
      have h10 : (q.length : Int) < (m.pools.length : Int) := by omega
      simp only [chk, poolP, last_concat] at hR
      cases hrl : ruleO m x.rule <;> simp only [hrl, Option.isSome_none, Option.isSome_some] at hR <;> (simp (config := {contextual := true, maxSteps := 2000000, implicitDefEqProofs := false}) [go_sem, hp, hL, hrl, SubE, SubR, hn, hw, h3, h4, h5, h6, h7, h8, h9, h10] <;> grind)
/- impl.MapOk -/
def c11 : SCode := (.seq (.reg [⟨(some 1), .box 40 (.tmp 0), none⟩,
   ⟨(some 2), .assign (.const (.bool false)), none⟩])
(.seq (.reg [⟨(some 3), .fieldAddr 40 (.tmp 1) 0, none⟩,
    ⟨(some 4), .load 2 (.tmp 3), none⟩,
    ⟨(some 5), .call ⟨(.value (.func 40)), #[(.tmp 4), (.const (.int .i64 1)), (.const (.int .i64 60))], #[2, 2, 2]⟩, none⟩,
    ⟨(some 6), .move (.tmp 5), none⟩,
    ⟨(some 7), .fieldAddr 40 (.tmp 1) 1, (some (6, true))⟩,
    ⟨(some 8), .load 2 (.tmp 7), (some (6, true))⟩,
    ⟨(some 9), .fieldAddr 40 (.tmp 1) 0, (some (6, true))⟩,
    ⟨(some 10), .load 2 (.tmp 9), (some (6, true))⟩,
    ⟨(some 11), .call ⟨(.value (.func 40)), #[(.tmp 8), (.const (.int .i64 0)), (.tmp 10)], #[2, 2, 2]⟩, (some (6, true))⟩,
    ⟨(some 12), .pick (.tmp 6) (.tmp 11) (.const (.bool false)), none⟩,
    ⟨(some 13), .move (.tmp 12), none⟩,
    ⟨(some 14), .fieldAddr 40 (.tmp 1) 2, (some (13, true))⟩,
    ⟨(some 15), .load 36 (.tmp 14), (some (13, true))⟩,
    ⟨(some 16), .call ⟨(.value (.func 41)), #[(.tmp 15)], #[36]⟩, (some (13, true))⟩,
    ⟨(some 17), .pick (.tmp 13) (.tmp 16) (.const (.bool false)), none⟩,
    ⟨(some 18), .move (.tmp 17), none⟩,
    ⟨(some 19), .load 40 (.tmp 1), (some (18, true))⟩,
    ⟨(some 20), .call ⟨(.value (.func 42)), #[(.tmp 19)], #[40]⟩, (some (18, true))⟩,
    ⟨(some 21), .pick (.tmp 18) (.tmp 20) (.const (.bool false)), none⟩,
    ⟨(some 22), .move (.tmp 21), none⟩,
    ⟨(some 23), .load 40 (.tmp 1), (some (22, true))⟩,
    ⟨(some 24), .call ⟨(.value (.func 43)), #[(.tmp 23)], #[40]⟩, (some (22, true))⟩,
    ⟨(some 25), .pick (.tmp 22) (.tmp 24) (.const (.bool false)), none⟩,
    ⟨(some 26), .move (.tmp 25), none⟩,
    ⟨(some 27), .fieldAddr 40 (.tmp 1) 2, (some (26, true))⟩,
    ⟨(some 28), .load 36 (.tmp 27), (some (26, true))⟩,
    ⟨(some 29), .fieldAddr 40 (.tmp 1) 5, (some (26, true))⟩,
    ⟨(some 30), .load 28 (.tmp 29), (some (26, true))⟩,
    ⟨(some 31), .call ⟨(.value (.func 44)), #[(.tmp 28), (.tmp 30)], #[36, 28]⟩, (some (26, true))⟩,
    ⟨(some 32), .pick (.tmp 26) (.tmp 31) (.const (.bool false)), none⟩,
    ⟨(some 33), .move (.tmp 32), none⟩,
    ⟨(some 34), .fieldAddr 40 (.tmp 1) 2, (some (33, true))⟩,
    ⟨(some 35), .load 36 (.tmp 34), (some (33, true))⟩,
    ⟨(some 36), .fieldAddr 40 (.tmp 1) 6, (some (33, true))⟩,
    ⟨(some 37), .load 28 (.tmp 36), (some (33, true))⟩,
    ⟨(some 38), .call ⟨(.value (.func 44)), #[(.tmp 35), (.tmp 37)], #[36, 28]⟩, (some (33, true))⟩,
    ⟨(some 39), .pick (.tmp 33) (.tmp 38) (.const (.bool false)), none⟩,
    ⟨(some 2), .assign (.tmp 39), none⟩])
 .ret))
theorem s11 : slimF Try.f11 = some (c11, [.t 2], 40) := by kernel_rfl
theorem o11 : okF [(40, g40), (41, g41), (42, g42), (43, g43), (44, g44)] Try.f11 = true := by kernel_rfl
noncomputable def g11 : Fsem := semT1 enMp (fun τ m => τ ≠ 0) (fun n τ m => .bool (mapOk m))
@[go_sem] theorem g11_eq {n τ : Nat} {m : Mp} : g11 n [.agg [.int .i64 m.epoch, .int .i64 m.term, .sl τ 2 (m.tree.devices.map (enDev.av τ)), .sl τ 3 (m.tree.buckets.map (enBkt.av τ)), .sl τ 4 (m.rules.map (enRule.av τ)), .sl τ 6 (m.pools.map (enPool.av τ)), .sl τ 1 (m.up.map (AV.int .i64)), .sl τ 1 (m.out.map (AV.int .i64))]] = ⟨τ ≠ 0, .bool (mapOk m)⟩ := semT1_eq  (E := enMp) (seen_Mp)
theorem p11 : Pure Try.prog 11 g11 := by
  refine semT1_pure fun τ m n h2 hpre => ?_
  have hT : Table Try.prog [(40, g40), (41, g41), (42, g42), (43, g43), (44, g44)] := (.cons p40 (.cons p41 (.cons p42 (.cons p43 (.cons p44 .nil)))))
  have hn0 : n ≠ 0 := by omega
  refine SatP.of_body hT hm Try.func11 s11 o11 h2 (by simp) ?_
  have hp : τ ≠ 0 := hpre
  simp (config := {contextual := true, maxSteps := 2000000, implicitDefEqProofs := false}) [c11, go_sem, hp, mapOk]
/- spec.l11Nodes -/
def c78 : SCode := (.seq (.reg [⟨(some 2), .box 36 (.tmp 0), none⟩,
   ⟨(some 4), .assign (.const (.bool false)), none⟩])
(.seq (.seq (.reg [⟨(some 5), .assign (.const (.int .i64 0)), none⟩])
  (.block 0 (.loop (.seq (.seq (.reg [⟨(some 6), .move (.tmp 5), none⟩,
         ⟨(some 7), .move (.tmp 1), none⟩,
         ⟨(some 8), .call ⟨(.builtin .len), #[(.tmp 7)], #[28]⟩, none⟩,
         ⟨(some 9), .binOp .lss 3 (.tmp 6) (.tmp 8) 3, none⟩])
      (.cond (.tmp 9) .skip
       (.exit 0)))
     (.seq (.block 1 (.seq (.draw [⟨(some 12), .load 36 (.tmp 2), none⟩,
           ⟨(some 13), .move (.tmp 1), none⟩,
           ⟨(some 14), .move (.tmp 5), none⟩,
           ⟨(some 15), .indexAddr 28 (.tmp 13) (.tmp 14), none⟩,
           ⟨(some 16), .load 2 (.tmp 15), none⟩,
           ⟨(some 17), .call ⟨(.value (.func 118)), #[(.tmp 12), (.tmp 16)], #[36, 2]⟩, none⟩,
           ⟨(some 18), .binOp .lss 3 (.tmp 17) (.const (.int .i64 0)) 3, none⟩,
           ⟨(some 19), .move (.tmp 18), none⟩,
           ⟨(some 20), .move (.tmp 5), (some (19, false))⟩,
           ⟨(some 21), .binOp .gtr 3 (.tmp 20) (.const (.int .i64 0)) 3, (some (19, false))⟩,
           ⟨(some 22), .move (.tmp 21), (some (19, false))⟩,
           ⟨(some 23), .move (.tmp 1), (some (22, true))⟩,
           ⟨(some 24), .move (.tmp 5), (some (22, true))⟩,
           ⟨(some 25), .binOp .sub 3 (.tmp 24) (.const (.int .i64 1)) 3, (some (22, true))⟩,
           ⟨(some 26), .indexAddr 28 (.tmp 23) (.tmp 25), (some (22, true))⟩,
           ⟨(some 27), .load 2 (.tmp 26), (some (22, true))⟩,
           ⟨(some 28), .move (.tmp 1), (some (22, true))⟩,
           ⟨(some 29), .move (.tmp 5), (some (22, true))⟩,
           ⟨(some 30), .indexAddr 28 (.tmp 28) (.tmp 29), (some (22, true))⟩,
           ⟨(some 31), .load 2 (.tmp 30), (some (22, true))⟩,
           ⟨(some 32), .binOp .geq 2 (.tmp 27) (.tmp 31) 2, (some (22, true))⟩,
           ⟨(some 33), .pick (.tmp 22) (.tmp 32) (.const (.bool false)), (some (19, false))⟩,
           ⟨(some 34), .pick (.tmp 19) (.const (.bool true)) (.tmp 33), none⟩] [[], [], [], [1, 2], [1, 2, 3], [0, 1, 2, 3, 4], [0, 1, 2, 3, 4, 5], [0, 1, 2, 3, 4, 5, 6], [0, 1, 2, 3, 4, 5, 6, 7], [0, 1, 2, 3, 4, 5, 6, 7, 8], [0, 1, 2, 3, 4, 5, 6, 7, 8, 9], [0, 1, 2, 3, 4, 5, 6, 7, 8, 9, 10], [0, 1, 2, 3, 4, 5, 6, 7, 8, 9, 10], [0, 1, 2, 3, 4, 5, 6, 7, 8, 9, 10, 12], [0, 1, 2, 3, 4, 5, 6, 7, 8, 9, 10, 11, 12, 13], [0, 1, 2, 3, 4, 5, 6, 7, 8, 9, 10, 11, 12, 13, 14], [0, 1, 2, 3, 4, 5, 6, 7, 8, 9, 10], [0, 1, 2, 3, 4, 5, 6, 7, 8, 9, 10], [0, 1, 2, 3, 4, 5, 6, 7, 8, 9, 10, 16, 17], [0, 1, 2, 3, 4, 5, 6, 7, 8, 9, 10, 16, 17, 18], [0, 1, 2, 3, 4, 5, 6, 7, 8, 9, 10, 11, 12, 13, 14, 15, 16, 17, 18, 19], [0, 1, 2, 3, 4, 5, 6, 7, 8, 9, 10, 11, 12, 13, 14, 15, 16, 17, 18, 19, 20], [0, 1, 2, 3, 4, 5, 6, 7, 8, 9, 10, 11, 12, 13, 14, 15, 16, 17, 18, 19, 20, 21]])
        (.cond (.tmp 34) (.seq (.reg [⟨(some 4), .assign (.const (.bool false)), none⟩])
          .ret)
         .skip)))
      (.reg [⟨(some 10), .move (.tmp 5), none⟩,
         ⟨(some 11), .binOp .add 3 (.tmp 10) (.const (.int .i64 1)) 3, none⟩,
         ⟨(some 5), .assign (.tmp 11), none⟩]))))))
 (.seq (.reg [⟨(some 4), .assign (.const (.bool true)), none⟩])
  .ret)))
theorem s78 : slimF Try.f78 = some (c78, [.t 4], 35) := by kernel_rfl
theorem o78 : okF [(118, g118)] Try.f78 = true := by kernel_rfl
noncomputable def g78 : Fsem := sem2 enTree (En.int .i64).list (fun t l => True) (fun n t l => .bool (nodesOk t l))
@[go_sem] theorem g78_eq {n τ τ' : Nat} {t : Tree} {l : List Int} : g78 n [.agg [.sl τ 2 (t.devices.map (enDev.av τ)), .sl τ 3 (t.buckets.map (enBkt.av τ))], .sl τ' 1 (l.map (AV.int .i64))] = ⟨True, .bool (nodesOk t l)⟩ := sem2_eq  (E := enTree) (F := (En.int .i64).list)
theorem p78 : Pure Try.prog 78 g78 := by
  refine sem2_pure fun τ τ' t l n h2 hpre => ?_
  have hT : Table Try.prog [(118, g118)] := (.cons p118 .nil)
  have hn0 : n ≠ 0 := by omega
  refine SatP.of_body hT hm Try.func78 s78 o78 h2 (by simp) ?_
  unfold nodesOk incr
  rw [← nodes_chk]
  generalize hr : chk (nodeP t) none l = r
  simp (config := {contextual := true, maxSteps := 2000000, implicitDefEqProofs := false}) [c78, go_sem]
  refine VW_listK hT h2 hm l [1, 2] (fun pre post (b : Unit) => [(5, .int .i64 pre.length)]) (fun pre post (b : Unit) => chk (nodeP t) pre.getLast? post = r) () ?_ ?_ ?_ ?_
  · exact hr
  · simp [SubI, go_sem]
  · intro _ hR
    have hR0 : true = r := hR
    simp (config := {contextual := true, maxSteps := 2000000, implicitDefEqProofs := false}) [go_sem]
    grind
  · rintro pre0 x rest _ hl hlen hR
    rcases List.eq_nil_or_concat pre0 with rfl | ⟨q, y, rfl⟩
    · have hln : l.length = 0 + (rest.length + 1) := by rw [← hl]; simp
      have hn : nth (List.map (AV.int .i64) l) (0) = (AV.int .i64) x := by rw [← hl]; simp [go_sem]
      have hw : l.length ≤ maxLen → IntKind.i64.wrap ((0 : Int) + 1) = (0 : Int) + 1 := fun h => wrap_ok (by omega) (by simp only [maxLen] at h; omega)
      have h3 : (0 : Int) ≤ (0 : Int) := by omega
      have h4 : (0 : Int) < (l.length : Int) := by omega
      have h5 : ¬ (l.length : Int) ≤ (0 : Int) := by omega
      have hw0 : IntKind.i64.wrap 1 = 1 := by decide
      have h4n : 0 < l.length := by omega
      simp only [chk, nodeP, incP, List.getLast?_nil] at hR
      (simp (config := {contextual := true, maxSteps := 2000000, implicitDefEqProofs := false}) [go_sem, SubI, hw0, h4n, hn, hw, h3, h4, h5] <;> grind)
    · have hln : l.length = q.length + 1 + (rest.length + 1) := by rw [← hl]; simp; omega
      have hn : nth (List.map (AV.int .i64) l) (q.length + 1) = (AV.int .i64) x := by rw [← hl]; simp [go_sem]
      have hw : l.length ≤ maxLen → IntKind.i64.wrap (((q.length : Int) + 1) + 1) = ((q.length : Int) + 1) + 1 := fun h => wrap_ok (by omega) (by simp only [maxLen] at h; omega)
      have h3 : (0 : Int) ≤ ((q.length : Int) + 1) := by omega
      have h4 : ((q.length : Int) + 1) < (l.length : Int) := by omega
      have h5 : ¬ (l.length : Int) ≤ ((q.length : Int) + 1) := by omega
      have h6 : nth (List.map (AV.int .i64) l) q.length = (AV.int .i64) y := by rw [← hl]; simp [go_sem]
      have h7 : l.length ≤ maxLen → IntKind.i64.wrap (q.length : Int) = (q.length : Int) := fun h => wrap_ok (by omega) (by simp only [maxLen] at h; omega)
      have h8 : (0 : Int) ≤ (q.length : Int) := by omega
      have h9 : (0 : Int) < ((q.length : Int) + 1) := by omega
      have h10 : (q.length : Int) < (l.length : Int) := by omega
      simp only [chk, nodeP, incP, last_concat] at hR
      (simp (config := {contextual := true, maxSteps := 2000000, implicitDefEqProofs := false}) [go_sem, SubI, hn, hw, h3, h4, h5, h6, h7, h8, h9, h10] <;> grind)
/- spec.l11Ok -/
def c36 : SCode := (.seq (.reg [⟨(some 1), .box 40 (.tmp 0), none⟩,
   ⟨(some 2), .assign (.const (.bool false)), none⟩])
(.seq (.seq (.reg [⟨(some 5), .fieldAddr 40 (.tmp 1) 0, none⟩,
     ⟨(some 6), .load 2 (.tmp 5), none⟩,
     ⟨(some 7), .call ⟨(.value (.func 73)), #[(.tmp 6), (.const (.int .i64 1)), (.const (.int .i64 60))], #[2, 2, 2]⟩, none⟩,
     ⟨(some 8), .unOp .not 4 (.tmp 7), none⟩,
     ⟨(some 9), .move (.tmp 8), none⟩,
     ⟨(some 10), .fieldAddr 40 (.tmp 1) 1, (some (9, false))⟩,
     ⟨(some 11), .load 2 (.tmp 10), (some (9, false))⟩,
     ⟨(some 12), .fieldAddr 40 (.tmp 1) 0, (some (9, false))⟩,
     ⟨(some 13), .load 2 (.tmp 12), (some (9, false))⟩,
     ⟨(some 14), .call ⟨(.value (.func 73)), #[(.tmp 11), (.const (.int .i64 0)), (.tmp 13)], #[2, 2, 2]⟩, (some (9, false))⟩,
     ⟨(some 15), .unOp .not 4 (.tmp 14), (some (9, false))⟩,
     ⟨(some 16), .pick (.tmp 9) (.const (.bool true)) (.tmp 15), none⟩,
     ⟨(some 17), .move (.tmp 16), none⟩,
     ⟨(some 18), .fieldAddr 40 (.tmp 1) 2, (some (17, false))⟩,
     ⟨(some 19), .load 36 (.tmp 18), (some (17, false))⟩,
     ⟨(some 20), .call ⟨(.value (.func 74)), #[(.tmp 19)], #[36]⟩, (some (17, false))⟩,
     ⟨(some 21), .unOp .not 4 (.tmp 20), (some (17, false))⟩,
     ⟨(some 22), .pick (.tmp 17) (.const (.bool true)) (.tmp 21), none⟩,
     ⟨(some 23), .move (.tmp 22), none⟩,
     ⟨(some 24), .fieldAddr 40 (.tmp 1) 3, (some (23, false))⟩,
     ⟨(some 25), .load 37 (.tmp 24), (some (23, false))⟩,
     ⟨(some 26), .call ⟨(.builtin .len), #[(.tmp 25)], #[37]⟩, (some (23, false))⟩,
     ⟨(some 27), .binOp .gtr 3 (.tmp 26) (.const (.int .i64 4)) 3, (some (23, false))⟩,
     ⟨(some 28), .pick (.tmp 23) (.const (.bool true)) (.tmp 27), none⟩,
     ⟨(some 29), .move (.tmp 28), none⟩,
     ⟨(some 30), .fieldAddr 40 (.tmp 1) 4, (some (29, false))⟩,
     ⟨(some 31), .load 38 (.tmp 30), (some (29, false))⟩,
     ⟨(some 32), .call ⟨(.builtin .len), #[(.tmp 31)], #[38]⟩, (some (29, false))⟩,
     ⟨(some 33), .binOp .gtr 3 (.tmp 32) (.const (.int .i64 4)) 3, (some (29, false))⟩,
     ⟨(some 34), .pick (.tmp 29) (.const (.bool true)) (.tmp 33), none⟩])
  (.cond (.tmp 34) (.seq (.reg [⟨(some 2), .assign (.const (.bool false)), none⟩])
    .ret)
   .skip))
 (.seq (.seq (.reg [⟨(some 3), .assign (.const (.int .i64 0)), none⟩])
   (.block 0 (.loop (.seq (.seq (.reg [⟨(some 35), .move (.tmp 3), none⟩,
          ⟨(some 36), .fieldAddr 40 (.tmp 1) 3, none⟩,
          ⟨(some 37), .load 37 (.tmp 36), none⟩,
          ⟨(some 38), .call ⟨(.builtin .len), #[(.tmp 37)], #[37]⟩, none⟩,
          ⟨(some 39), .binOp .lss 3 (.tmp 35) (.tmp 38) 3, none⟩])
       (.cond (.tmp 39) .skip
        (.exit 0)))
      (.seq (.block 1 (.seq (.draw [⟨(some 42), .fieldAddr 40 (.tmp 1) 2, none⟩,
            ⟨(some 43), .load 36 (.tmp 42), none⟩,
            ⟨(some 44), .fieldAddr 40 (.tmp 1) 3, none⟩,
            ⟨(some 45), .load 37 (.tmp 44), none⟩,
            ⟨(some 46), .move (.tmp 3), none⟩,
            ⟨(some 47), .indexAddr 37 (.tmp 45) (.tmp 46), none⟩,
            ⟨(some 48), .load 87 (.tmp 47), none⟩,
            ⟨(some 49), .call ⟨(.value (.func 75)), #[(.tmp 43), (.tmp 48)], #[36, 87]⟩, none⟩,
            ⟨(some 50), .unOp .not 4 (.tmp 49), none⟩,
            ⟨(some 51), .move (.tmp 50), none⟩,
            ⟨(some 52), .move (.tmp 3), (some (51, false))⟩,
            ⟨(some 53), .binOp .gtr 3 (.tmp 52) (.const (.int .i64 0)) 3, (some (51, false))⟩,
            ⟨(some 54), .move (.tmp 53), (some (51, false))⟩,
            ⟨(some 55), .fieldAddr 40 (.tmp 1) 3, (some (54, true))⟩,
            ⟨(some 56), .load 37 (.tmp 55), (some (54, true))⟩,
            ⟨(some 57), .move (.tmp 3), (some (54, true))⟩,
            ⟨(some 58), .binOp .sub 3 (.tmp 57) (.const (.int .i64 1)) 3, (some (54, true))⟩,
            ⟨(some 59), .indexAddr 37 (.tmp 56) (.tmp 58), (some (54, true))⟩,
            ⟨(some 60), .fieldAddr 87 (.tmp 59) 0, (some (54, true))⟩,
            ⟨(some 61), .load 2 (.tmp 60), (some (54, true))⟩,
            ⟨(some 62), .fieldAddr 40 (.tmp 1) 3, (some (54, true))⟩,
            ⟨(some 63), .load 37 (.tmp 62), (some (54, true))⟩,
            ⟨(some 64), .move (.tmp 3), (some (54, true))⟩,
            ⟨(some 65), .indexAddr 37 (.tmp 63) (.tmp 64), (some (54, true))⟩,
            ⟨(some 66), .fieldAddr 87 (.tmp 65) 0, (some (54, true))⟩,
            ⟨(some 67), .load 2 (.tmp 66), (some (54, true))⟩,
            ⟨(some 68), .binOp .geq 2 (.tmp 61) (.tmp 67) 2, (some (54, true))⟩,
            ⟨(some 69), .pick (.tmp 54) (.tmp 68) (.const (.bool false)), (some (51, false))⟩,
            ⟨(some 70), .pick (.tmp 51) (.const (.bool true)) (.tmp 69), none⟩] [[], [0], [], [2], [], [2, 3, 4], [2, 3, 4, 5], [0, 1, 2, 3, 4, 5, 6], [0, 1, 2, 3, 4, 5, 6, 7], [0, 1, 2, 3, 4, 5, 6, 7, 8], [0, 1, 2, 3, 4, 5, 6, 7, 8, 9], [0, 1, 2, 3, 4, 5, 6, 7, 8, 9, 10], [0, 1, 2, 3, 4, 5, 6, 7, 8, 9, 10, 11], [0, 1, 2, 3, 4, 5, 6, 7, 8, 9, 10, 11, 12], [0, 1, 2, 3, 4, 5, 6, 7, 8, 9, 10, 11, 12, 13], [0, 1, 2, 3, 4, 5, 6, 7, 8, 9, 10, 11, 12], [0, 1, 2, 3, 4, 5, 6, 7, 8, 9, 10, 11, 12, 15], [0, 1, 2, 3, 4, 5, 6, 7, 8, 9, 10, 11, 12, 13, 14, 15, 16], [0, 1, 2, 3, 4, 5, 6, 7, 8, 9, 10, 11, 12, 13, 14, 15, 16, 17], [0, 1, 2, 3, 4, 5, 6, 7, 8, 9, 10, 11, 12, 13, 14, 15, 16, 17, 18], [0, 1, 2, 3, 4, 5, 6, 7, 8, 9, 10, 11, 12], [0, 1, 2, 3, 4, 5, 6, 7, 8, 9, 10, 11, 12, 20], [0, 1, 2, 3, 4, 5, 6, 7, 8, 9, 10, 11, 12], [0, 1, 2, 3, 4, 5, 6, 7, 8, 9, 10, 11, 12, 20, 21, 22], [0, 1, 2, 3, 4, 5, 6, 7, 8, 9, 10, 11, 12, 20, 21, 22, 23], [0, 1, 2, 3, 4, 5, 6, 7, 8, 9, 10, 11, 12, 20, 21, 22, 23, 24], [0, 1, 2, 3, 4, 5, 6, 7, 8, 9, 10, 11, 12, 13, 14, 15, 16, 17, 18, 19, 20, 21, 22, 23, 24, 25], [0, 1, 2, 3, 4, 5, 6, 7, 8, 9, 10, 11, 12, 13, 14, 15, 16, 17, 18, 19, 20, 21, 22, 23, 24, 25, 26], [0, 1, 2, 3, 4, 5, 6, 7, 8, 9, 10, 11, 12, 13, 14, 15, 16, 17, 18, 19, 20, 21, 22, 23, 24, 25, 26, 27]])
         (.cond (.tmp 70) (.seq (.reg [⟨(some 2), .assign (.const (.bool false)), none⟩])
           .ret)
          .skip)))
       (.reg [⟨(some 40), .move (.tmp 3), none⟩,
          ⟨(some 41), .binOp .add 3 (.tmp 40) (.const (.int .i64 1)) 3, none⟩,
          ⟨(some 3), .assign (.tmp 41), none⟩]))))))
  (.seq (.seq (.reg [⟨(some 4), .assign (.const (.int .i64 0)), none⟩])
    (.block 2 (.loop (.seq (.seq (.reg [⟨(some 71), .move (.tmp 4), none⟩,
           ⟨(some 72), .fieldAddr 40 (.tmp 1) 4, none⟩,
           ⟨(some 73), .load 38 (.tmp 72), none⟩,
           ⟨(some 74), .call ⟨(.builtin .len), #[(.tmp 73)], #[38]⟩, none⟩,
           ⟨(some 75), .binOp .lss 3 (.tmp 71) (.tmp 74) 3, none⟩])
        (.cond (.tmp 75) .skip
         (.exit 2)))
       (.seq (.block 3 (.seq (.draw [⟨(some 78), .fieldAddr 40 (.tmp 1) 4, none⟩,
             ⟨(some 79), .load 38 (.tmp 78), none⟩,
             ⟨(some 80), .move (.tmp 4), none⟩,
             ⟨(some 81), .indexAddr 38 (.tmp 79) (.tmp 80), none⟩,
             ⟨(some 82), .load 47 (.tmp 81), none⟩,
             ⟨(some 83), .call ⟨(.value (.func 76)), #[(.tmp 82)], #[47]⟩, none⟩,
             ⟨(some 84), .unOp .not 4 (.tmp 83), none⟩,
             ⟨(some 85), .move (.tmp 84), none⟩,
             ⟨(some 86), .move (.tmp 4), (some (85, false))⟩,
             ⟨(some 87), .binOp .gtr 3 (.tmp 86) (.const (.int .i64 0)) 3, (some (85, false))⟩,
             ⟨(some 88), .move (.tmp 87), (some (85, false))⟩,
             ⟨(some 89), .fieldAddr 40 (.tmp 1) 4, (some (88, true))⟩,
             ⟨(some 90), .load 38 (.tmp 89), (some (88, true))⟩,
             ⟨(some 91), .move (.tmp 4), (some (88, true))⟩,
             ⟨(some 92), .binOp .sub 3 (.tmp 91) (.const (.int .i64 1)) 3, (some (88, true))⟩,
             ⟨(some 93), .indexAddr 38 (.tmp 90) (.tmp 92), (some (88, true))⟩,
             ⟨(some 94), .fieldAddr 47 (.tmp 93) 0, (some (88, true))⟩,
             ⟨(some 95), .load 2 (.tmp 94), (some (88, true))⟩,
             ⟨(some 96), .fieldAddr 40 (.tmp 1) 4, (some (88, true))⟩,
             ⟨(some 97), .load 38 (.tmp 96), (some (88, true))⟩,
             ⟨(some 98), .move (.tmp 4), (some (88, true))⟩,
             ⟨(some 99), .indexAddr 38 (.tmp 97) (.tmp 98), (some (88, true))⟩,
             ⟨(some 100), .fieldAddr 47 (.tmp 99) 0, (some (88, true))⟩,
             ⟨(some 101), .load 2 (.tmp 100), (some (88, true))⟩,
             ⟨(some 102), .binOp .geq 2 (.tmp 95) (.tmp 101) 2, (some (88, true))⟩,
             ⟨(some 103), .pick (.tmp 88) (.tmp 102) (.const (.bool false)), (some (85, false))⟩,
             ⟨(some 104), .pick (.tmp 85) (.const (.bool true)) (.tmp 103), none⟩,
             ⟨(some 105), .move (.tmp 104), none⟩,
             ⟨(some 106), .load 40 (.tmp 1), (some (105, false))⟩,
             ⟨(some 107), .fieldAddr 40 (.tmp 1) 4, (some (105, false))⟩,
             ⟨(some 108), .load 38 (.tmp 107), (some (105, false))⟩,
             ⟨(some 109), .move (.tmp 4), (some (105, false))⟩,
             ⟨(some 110), .indexAddr 38 (.tmp 108) (.tmp 109), (some (105, false))⟩,
             ⟨(some 111), .fieldAddr 47 (.tmp 110) 4, (some (105, false))⟩,
             ⟨(some 112), .load 2 (.tmp 111), (some (105, false))⟩,
             ⟨(some 113), .call ⟨(.value (.func 77)), #[(.tmp 106), (.tmp 112)], #[40, 2]⟩, (some (105, false))⟩,
             ⟨(some 114), .binOp .lss 3 (.tmp 113) (.const (.int .i64 0)) 3, (some (105, false))⟩,
             ⟨(some 115), .pick (.tmp 105) (.const (.bool true)) (.tmp 114), none⟩] [[], [0], [], [0, 1, 2], [0, 1, 2, 3], [0, 1, 2, 3, 4], [0, 1, 2, 3, 4, 5], [0, 1, 2, 3, 4, 5, 6], [0, 1, 2, 3, 4, 5, 6, 7], [0, 1, 2, 3, 4, 5, 6, 7, 8], [0, 1, 2, 3, 4, 5, 6, 7, 8, 9], [0, 1, 2, 3, 4, 5, 6, 7, 8, 9, 10], [0, 1, 2, 3, 4, 5, 6, 7, 8, 9, 10, 11], [0, 1, 2, 3, 4, 5, 6, 7, 8, 9, 10], [0, 1, 2, 3, 4, 5, 6, 7, 8, 9, 10, 13], [0, 1, 2, 3, 4, 5, 6, 7, 8, 9, 10, 11, 12, 13, 14], [0, 1, 2, 3, 4, 5, 6, 7, 8, 9, 10, 11, 12, 13, 14, 15], [0, 1, 2, 3, 4, 5, 6, 7, 8, 9, 10, 11, 12, 13, 14, 15, 16], [0, 1, 2, 3, 4, 5, 6, 7, 8, 9, 10], [0, 1, 2, 3, 4, 5, 6, 7, 8, 9, 10, 18], [0, 1, 2, 3, 4, 5, 6, 7, 8, 9, 10], [0, 1, 2, 3, 4, 5, 6, 7, 8, 9, 10, 18, 19, 20], [0, 1, 2, 3, 4, 5, 6, 7, 8, 9, 10, 18, 19, 20, 21], [0, 1, 2, 3, 4, 5, 6, 7, 8, 9, 10, 18, 19, 20, 21, 22], [0, 1, 2, 3, 4, 5, 6, 7, 8, 9, 10, 11, 12, 13, 14, 15, 16, 17, 18, 19, 20, 21, 22, 23], [0, 1, 2, 3, 4, 5, 6, 7, 8, 9, 10, 11, 12, 13, 14, 15, 16, 17, 18, 19, 20, 21, 22, 23, 24], [0, 1, 2, 3, 4, 5, 6, 7, 8, 9, 10, 11, 12, 13, 14, 15, 16, 17, 18, 19, 20, 21, 22, 23, 24, 25], [0, 1, 2, 3, 4, 5, 6, 7, 8, 9, 10, 11, 12, 13, 14, 15, 16, 17, 18, 19, 20, 21, 22, 23, 24, 25, 26], [0, 1, 2, 3, 4, 5, 6, 7, 8, 9, 10, 11, 12, 13, 14, 15, 16, 17, 18, 19, 20, 21, 22, 23, 24, 25, 26, 27], [0, 1, 2, 3, 4, 5, 6, 7, 8, 9, 10, 11, 12, 13, 14, 15, 16, 17, 18, 19, 20, 21, 22, 23, 24, 25, 26, 27], [0, 1, 2, 3, 4, 5, 6, 7, 8, 9, 10, 11, 12, 13, 14, 15, 16, 17, 18, 19, 20, 21, 22, 23, 24, 25, 26, 27, 29], [0, 1, 2, 3, 4, 5, 6, 7, 8, 9, 10, 11, 12, 13, 14, 15, 16, 17, 18, 19, 20, 21, 22, 23, 24, 25, 26, 27], [0, 1, 2, 3, 4, 5, 6, 7, 8, 9, 10, 11, 12, 13, 14, 15, 16, 17, 18, 19, 20, 21, 22, 23, 24, 25, 26, 27, 29, 30, 31], [0, 1, 2, 3, 4, 5, 6, 7, 8, 9, 10, 11, 12, 13, 14, 15, 16, 17, 18, 19, 20, 21, 22, 23, 24, 25, 26, 27, 29, 30, 31, 32], [0, 1, 2, 3, 4, 5, 6, 7, 8, 9, 10, 11, 12, 13, 14, 15, 16, 17, 18, 19, 20, 21, 22, 23, 24, 25, 26, 27, 29, 30, 31, 32, 33], [0, 1, 2, 3, 4, 5, 6, 7, 8, 9, 10, 11, 12, 13, 14, 15, 16, 17, 18, 19, 20, 21, 22, 23, 24, 25, 26, 27, 28, 29, 30, 31, 32, 33, 34], [0, 1, 2, 3, 4, 5, 6, 7, 8, 9, 10, 11, 12, 13, 14, 15, 16, 17, 18, 19, 20, 21, 22, 23, 24, 25, 26, 27, 28, 29, 30, 31, 32, 33, 34, 35], [0, 1, 2, 3, 4, 5, 6, 7, 8, 9, 10, 11, 12, 13, 14, 15, 16, 17, 18, 19, 20, 21, 22, 23, 24, 25, 26, 27, 28, 29, 30, 31, 32, 33, 34, 35, 36]])
          (.cond (.tmp 115) (.seq (.reg [⟨(some 2), .assign (.const (.bool false)), none⟩])
            .ret)
           .skip)))
        (.reg [⟨(some 76), .move (.tmp 4), none⟩,
           ⟨(some 77), .binOp .add 3 (.tmp 76) (.const (.int .i64 1)) 3, none⟩,
           ⟨(some 4), .assign (.tmp 77), none⟩]))))))
   (.seq (.reg [⟨(some 116), .fieldAddr 40 (.tmp 1) 2, none⟩,
       ⟨(some 117), .load 36 (.tmp 116), none⟩,
       ⟨(some 118), .fieldAddr 40 (.tmp 1) 5, none⟩,
       ⟨(some 119), .load 28 (.tmp 118), none⟩,
       ⟨(some 120), .call ⟨(.value (.func 78)), #[(.tmp 117), (.tmp 119)], #[36, 28]⟩, none⟩,
       ⟨(some 121), .move (.tmp 120), none⟩,
       ⟨(some 122), .fieldAddr 40 (.tmp 1) 2, (some (121, true))⟩,
       ⟨(some 123), .load 36 (.tmp 122), (some (121, true))⟩,
       ⟨(some 124), .fieldAddr 40 (.tmp 1) 6, (some (121, true))⟩,
       ⟨(some 125), .load 28 (.tmp 124), (some (121, true))⟩,
       ⟨(some 126), .call ⟨(.value (.func 78)), #[(.tmp 123), (.tmp 125)], #[36, 28]⟩, (some (121, true))⟩,
       ⟨(some 127), .pick (.tmp 121) (.tmp 126) (.const (.bool false)), none⟩,
       ⟨(some 2), .assign (.tmp 127), none⟩])
    .ret)))))
theorem s36 : slimF Try.f36 = some (c36, [.t 2], 128) := by kernel_rfl
theorem o36 : okF [(73, g73), (74, g74), (75, g75), (76, g76), (77, g77), (78, g78)] Try.f36 = true := by kernel_rfl
noncomputable def g36 : Fsem := sem1 enMp (fun m => True) (fun n m => .bool (mapOk m))
@[go_sem] theorem g36_eq {n τ : Nat} {m : Mp} : g36 n [.agg [.int .i64 m.epoch, .int .i64 m.term, .sl τ 2 (m.tree.devices.map (enDev.av τ)), .sl τ 3 (m.tree.buckets.map (enBkt.av τ)), .sl τ 4 (m.rules.map (enRule.av τ)), .sl τ 6 (m.pools.map (enPool.av τ)), .sl τ 1 (m.up.map (AV.int .i64)), .sl τ 1 (m.out.map (AV.int .i64))]] = ⟨True, .bool (mapOk m)⟩ := sem1_eq  (E := enMp)
theorem p36 : Pure Try.prog 36 g36 := by
  refine sem1_pure fun τ m n h2 hpre => ?_
  have hT : Table Try.prog [(73, g73), (74, g74), (75, g75), (76, g76), (77, g77), (78, g78)] := (.cons p73 (.cons p74 (.cons p75 (.cons p76 (.cons p77 (.cons p78 .nil))))))
  have hn0 : n ≠ 0 := by omega
  refine SatP.of_body hT hm Try.func36 s36 o36 h2 (by simp) ?_
  have hn : ∀ r1 r2, chk (ruleP m.tree) none m.rules = r1 → chk (poolP m) none m.pools = r2 → mapOk m = (btw m.epoch 1 60 && btw m.term 0 m.epoch && treeOk m.tree && (r1 && decide (m.rules.length ≤ 4)) && (r2 && decide (m.pools.length ≤ 4)) && nodesOk m.tree m.up && nodesOk m.tree m.out) := by
    rintro r1 r2 rfl rfl
    rfl
  generalize hr1 : chk (ruleP m.tree) none m.rules = r1
  generalize hr2 : chk (poolP m) none m.pools = r2
  rw [hn r1 r2 hr1 hr2]
  simp (config := {contextual := true, maxSteps := 2000000, implicitDefEqProofs := false}) [c36, go_sem]
  refine ⟨fun h => by grind, ?_⟩
  intro hb1 hb2 ht hl1 hl2
  refine VW_listK hT h2 hm m.rules [1] (fun pre post (b : Unit) => [(3, .int .i64 pre.length)]) (fun pre post (b : Unit) => chk (ruleP m.tree) pre.getLast? post = r1) () ?_ ?_ ?_ ?_
  · exact hr1
  · simp [SubI, go_sem]
  · intro _ hR
    have hR0 : true = r1 := hR
    simp (config := {contextual := true, maxSteps := 2000000, implicitDefEqProofs := false}) [go_sem]
    intro hL1
    refine VW_listK hT h2 hm m.pools [1] (fun pre post (b : Unit) => [(4, .int .i64 pre.length)]) (fun pre post (b : Unit) => chk (poolP m) pre.getLast? post = r2) () ?_ ?_ ?_ ?_
    · exact hr2
    · simp [SubI, go_sem]
    · intro _ hR
      have hR0 : true = r2 := hR
      simp (config := {contextual := true, maxSteps := 2000000, implicitDefEqProofs := false}) [go_sem]
      grind
    · rintro pre0 x rest _ hl hlen hR
      rcases List.eq_nil_or_concat pre0 with rfl | ⟨q, y, rfl⟩
      · have hln : m.pools.length = 0 + (rest.length + 1) := by rw [← hl]; simp
        have hn : nth (List.map (enPool.av τ) m.pools) (0) = (enPool.av τ) x := by rw [← hl]; simp [go_sem]
        have hw : m.pools.length ≤ maxLen → IntKind.i64.wrap ((0 : Int) + 1) = (0 : Int) + 1 := fun h => wrap_ok (by omega) (by simp only [maxLen] at h; omega)
        have h3 : (0 : Int) ≤ (0 : Int) := by omega
        have h4 : (0 : Int) < (m.pools.length : Int) := by omega
        have h5 : ¬ (m.pools.length : Int) ≤ (0 : Int) := by omega
        have hw0 : IntKind.i64.wrap 1 = 1 := by decide
        have h4n : 0 < m.pools.length := by omega
        simp only [chk, poolP, ruleO_idx, List.getLast?_nil] at hR
        (simp (config := {contextual := true, maxSteps := 2000000, implicitDefEqProofs := false}) [go_sem, ruleO_idx, SubI, hw0, h4n, hn, hw, h3, h4, h5] <;> grind)
      · have hln : m.pools.length = q.length + 1 + (rest.length + 1) := by rw [← hl]; simp; omega
        have hn : nth (List.map (enPool.av τ) m.pools) (q.length + 1) = (enPool.av τ) x := by rw [← hl]; simp [go_sem]
        have hw : m.pools.length ≤ maxLen → IntKind.i64.wrap (((q.length : Int) + 1) + 1) = ((q.length : Int) + 1) + 1 := fun h => wrap_ok (by omega) (by simp only [maxLen] at h; omega)
        have h3 : (0 : Int) ≤ ((q.length : Int) + 1) := by omega
        have h4 : ((q.length : Int) + 1) < (m.pools.length : Int) := by omega
        have h5 : ¬ (m.pools.length : Int) ≤ ((q.length : Int) + 1) := by omega
        have h6 : nth (List.map (enPool.av τ) m.pools) q.length = (enPool.av τ) y := by rw [← hl]; simp [go_sem]
        have h7 : m.pools.length ≤ maxLen → IntKind.i64.wrap (q.length : Int) = (q.length : Int) := fun h => wrap_ok (by omega) (by simp only [maxLen] at h; omega)
        have h8 : (0 : Int) ≤ (q.length : Int) := by omega
        have h9 : (0 : Int) < ((q.length : Int) + 1) := by omega
        have h10 : (q.length : Int) < (m.pools.length : Int) := by omega
        simp only [chk, poolP, ruleO_idx, last_concat] at hR
        (simp (config := {contextual := true, maxSteps := 2000000, implicitDefEqProofs := false}) [go_sem, ruleO_idx, SubI, hn, hw, h3, h4, h5, h6, h7, h8, h9, h10] <;> grind)

  · rintro pre0 x rest _ hl hlen hR
    rcases List.eq_nil_or_concat pre0 with rfl | ⟨q, y, rfl⟩
    · have hln : m.rules.length = 0 + (rest.length + 1) := by rw [← hl]; simp
      have hn : nth (List.map (enRule.av τ) m.rules) (0) = (enRule.av τ) x := by rw [← hl]; simp [go_sem]
      have hw : m.rules.length ≤ maxLen → IntKind.i64.wrap ((0 : Int) + 1) = (0 : Int) + 1 := fun h => wrap_ok (by omega) (by simp only [maxLen] at h; omega)
      have h3 : (0 : Int) ≤ (0 : Int) := by omega
      have h4 : (0 : Int) < (m.rules.length : Int) := by omega
      have h5 : ¬ (m.rules.length : Int) ≤ (0 : Int) := by omega
      have hw0 : IntKind.i64.wrap 1 = 1 := by decide
      have h4n : 0 < m.rules.length := by omega
      simp only [chk, ruleP, List.getLast?_nil] at hR
      (simp (config := {contextual := true, maxSteps := 2000000, implicitDefEqProofs := false}) [go_sem, ht, SubI, hw0, h4n, hn, hw, h3, h4, h5] <;> grind)
    · have hln : m.rules.length = q.length + 1 + (rest.length + 1) := by rw [← hl]; simp; omega
      have hn : nth (List.map (enRule.av τ) m.rules) (q.length + 1) = (enRule.av τ) x := by rw [← hl]; simp [go_sem]
      have hw : m.rules.length ≤ maxLen → IntKind.i64.wrap (((q.length : Int) + 1) + 1) = ((q.length : Int) + 1) + 1 := fun h => wrap_ok (by omega) (by simp only [maxLen] at h; omega)
      have h3 : (0 : Int) ≤ ((q.length : Int) + 1) := by omega
      have h4 : ((q.length : Int) + 1) < (m.rules.length : Int) := by omega
      have h5 : ¬ (m.rules.length : Int) ≤ ((q.length : Int) + 1) := by omega
      have h6 : nth (List.map (enRule.av τ) m.rules) q.length = (enRule.av τ) y := by rw [← hl]; simp [go_sem]
      have h7 : m.rules.length ≤ maxLen → IntKind.i64.wrap (q.length : Int) = (q.length : Int) := fun h => wrap_ok (by omega) (by simp only [maxLen] at h; omega)
      have h8 : (0 : Int) ≤ (q.length : Int) := by omega
      have h9 : (0 : Int) < ((q.length : Int) + 1) := by omega
      have h10 : (q.length : Int) < (m.rules.length : Int) := by omega
      simp only [chk, ruleP, last_concat] at hR
      (simp (config := {contextual := true, maxSteps := 2000000, implicitDefEqProofs := false}) [go_sem, ht, SubI, hn, hw, h3, h4, h5, h6, h7, h8, h9, h10] <;> grind)
/- spec.MapOk -/
def c9 : SCode := (.seq (.reg [⟨(some 1), .box 40 (.tmp 0), none⟩,
   ⟨(some 2), .assign (.const (.bool false)), none⟩])
(.seq (.reg [⟨(some 3), .load 40 (.tmp 1), none⟩,
    ⟨(some 4), .call ⟨(.value (.func 36)), #[(.tmp 3)], #[40]⟩, none⟩,
    ⟨(some 2), .assign (.tmp 4), none⟩])
 .ret))
theorem s9 : slimF Try.f9 = some (c9, [.t 2], 5) := by kernel_rfl
theorem o9 : okF [(36, g36)] Try.f9 = true := by kernel_rfl
noncomputable def g9 : Fsem := sem1 enMp (fun m => True) (fun n m => .bool (mapOk m))
@[go_sem] theorem g9_eq {n τ : Nat} {m : Mp} : g9 n [.agg [.int .i64 m.epoch, .int .i64 m.term, .sl τ 2 (m.tree.devices.map (enDev.av τ)), .sl τ 3 (m.tree.buckets.map (enBkt.av τ)), .sl τ 4 (m.rules.map (enRule.av τ)), .sl τ 6 (m.pools.map (enPool.av τ)), .sl τ 1 (m.up.map (AV.int .i64)), .sl τ 1 (m.out.map (AV.int .i64))]] = ⟨True, .bool (mapOk m)⟩ := sem1_eq  (E := enMp)
theorem p9 : Pure Try.prog 9 g9 := by
  refine sem1_pure fun τ m n h2 hpre => ?_
  have hT : Table Try.prog [(36, g36)] := (.cons p36 .nil)
  have hn0 : n ≠ 0 := by omega
  refine SatP.of_body hT hm Try.func9 s9 o9 h2 (by simp) ?_
  simp (config := {contextual := true, maxSteps := 2000000, implicitDefEqProofs := false}) [c9, go_sem]
end Go.Ve
